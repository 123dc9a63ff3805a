/- Lemmas. -/
import Derived.Test.YthcgdgkpgdjahaaGreatDoorMbi
namespace Go.Proofs.YthcgdgkpgdjahaaGreatDoor
open Go.RowKit
set_option linter.unusedVariables false
set_option linter.unusedSimpArgs false
set_option maxHeartbeats 16000000
open _root_.Go.Proofs.Tryz
set_option maxRecDepth 20000
theorem QDa{p:Prop}(h:p:=by
 exact⟨0,0,none,0,[],qo,rfl,aA rfl,OB0,aA aM.nil,HR0,HB0,aA (lR _)⟩):p:=h
theorem QCH{p:Prop}(h:p:=by
 go_wp2;refine bR (.agg #[.complex .f64 0 0,.slice none 0 0]) ?_;exact tQ HJ2.o (oH HBW.o (Nat.le_succ _)) rfl rfl):p:=h
theorem QBU{p:Prop}(h:p:=by
 rw[e9] at HG9 ⊢;go_roundw
 case rel=>exact⟨k+1,A',c2,qo,by go_num,rfl,aA (by have:=HG9.o;rw[HL9.o,HTF.o] at this;exact this),HB9⟩
 case measure=>simp[intOf];omega):p:=h
theorem QAK{p:Prop}(h:p:=by
 have HG2:=aA (HG.o.on aO (aB wr (.cells #[.complex .f64 (Cm.qb x.1.1) (Cm.qb x.1.2),.slice xa x.2.length xc] 96)));have OBQ2:=qK OBQ (aB wr (.cells #[.complex .f64 (Cm.qb x.1.1) (Cm.qb x.1.2),.slice xa x.2.length xc] 96));have HBQ2:=qB HBQ (aB wr (.cells #[.complex .f64 (Cm.qb x.1.1) (Cm.qb x.1.2),.slice xa x.2.length xc] 96));have HSZ2:Hid (W2.heap.size<=(wr.alloc (.cells #[.complex .f64 (Cm.qb x.1.1) (Cm.qb x.1.2),.slice xa x.2.length xc] 96)).heap.size):=aA (by have:=HSZ.o;rw[World.size_alloc];omega);clear heq HPS HST HG HX3;go_wp2;go_roundw
 case rel=>exact⟨k+1,n,a2,c2,st,qo,by go_num,HNS,OBQ2,HG2,HST2,HBQ2,HSZ2⟩
 case measure=>simp[intOf];omega):p:=h
theorem QAd{p:Prop}(h:p:=by
 have OBWW:=aA OBQ.o;have HGW:=aA HG.o;have HBT:=aA HBQ.o;have HSW:=aA HSZ.o;obtain⟨WW,hWW⟩:∃WW:World,WW=wr:=⟨_,rfl⟩;subst hWW;have PBWW:=qK PB HBT.o;clear HST OBQ HG HBQ HSZ PBQ;obtain⟨⟨y0,y1⟩,g0,g1⟩:=fL OBWW.o;have zy:=aD OBWW.o;obtain⟨⟨v0,v1,v2,v3,v4,v5,v6⟩,_⟩:=bI PBWW.o;have zv:=aD PBWW.o;go_wp2;have RBWW:=qK RB HBT.o;have HDW:=aA (fun (w':World) (hb:Below WW.heap.size WW w')=>HDU.o w' okp _ (HOB.o.on aO (aC HBW.o (aC HBT.o hb))));go_region_law (first
  |(go_simp;go_at_call 231;refine(HDW.o _ (Below.refl _ _).drew).mono ?_;rintro e wd ⟨dv,rfl,hds,hbd⟩;obtain⟨da,dc,rfl,_⟩:=hds.slice;have HBD:=aA (aC (Below.refl WW.heap.size WW).drew hbd);have HDS:=aA (hds.inb aO);have OBD:=qK OBWW HBD.o;obtain⟨⟨z0,z1⟩,h0,h1⟩:=fL OBD.o;have zz:=aD OBD.o;clear hbd hds)
  |(refine XH (base:=W2.heap.size) XB aO rfl (.tmp 76) (.tmp 80) rfl _ st rfl (HGW.o.on aO HBD.o) _ (gV p.aD4 m) rfl (aH.more aO HDS.o (fun b hb=>⟨by have h1:=hb.1;have h2:=aD OBWW.o;have h3:WW.heap.size<=b:=h1;omega,hb.2,fun e=>by have h1:WW.heap.size<=b:=hb.1;have h2:=(HGW.o.lt b e.symm).2;omega⟩)) (by have h1:=HRL.o;have h2:=HDL.o;rw[<-HRS.o] at h1;omega) qe (lT HSW.o HBD.o.size) ?_;intro l2 hl2 A2 c4 w10 hG hgr hat';have HG10:=aA hG;have HL10:=aA hl2.o;have HB10:=aA ((HGW.o.on aO HBD.o).below (aC HBT.o HBD.o) hgr (qA HZ2.o) (lT HSW.o HBD.o.size));have OB10:=aA ((hgr.block wo.heap.size zz (fun e=>by have h1:=(HGW.o.lt _ e.symm).1;have h2:=HZ2.o;omega)).trans OBD.o);obtain⟨⟨s0',s1'⟩,t0',t1'⟩:=fL OB10.o;have zs':=aD OB10.o;clear hG hgr hat' hl2))
 all_goals
  have RB10:=qK RB HB10.o;obtain⟨⟨u0,u1⟩,f0,f1⟩:=fL RB10.o;have zu:=aD RB10.o;have n1:¬w.heap.size+1=wo.heap.size:=qA HZ0.o;have n2:¬wo.heap.size=w.heap.size+1:=qA HZ0.o;go_wp2;refine bR (.agg #[.complex .f64 ma mb,.slice A2 l2.length c4]) ?_;refine⟨.slice A2 l2.length c4,by rw[HJ3.o,HMA2.o,HMB2.o],?_,oH (aC HBW.o (HB10.o.setCell (p:=⟨wo.heap.size,1,none⟩) (lR _) _)) (Nat.le_succ _)⟩;have hsl:=(eO (enc:=FA) (good:=yO) (ok':=fun b=>W2.heap.size<=b) HG10.o).sl (by rw[HL10.o,aL,HRS.o];have h1:=HRL.o;have h2:=HDL.o;omega) (fun b=>W2.heap.size<=b) (fun b hb _=>hb) (fun b hb _=>hb) aO;rw[HJ3.o];have e10:l2=RES++gV p.aD4 m:=by rw[HL10.o,HRS.o]
  rw[<-e10];refine aH.more aO (aH.aDW aO hsl (((aI (g:=wo.heap.size) (i:=1) _).mono fun k hk hb=>by have h1:W2.heap.size<=k:=hb;have h2:=HZ2.o;show k≠wo.heap.size;omega).trans ((((aI (g:=w.heap.size+1) (i:=0) _).trans (aI (g:=w.heap.size+1) (i:=1) _)).mono fun k hk hb=>by have h1:W2.heap.size<=k:=hb;have h2:=HZ2.o;have h3:=HZ0.o;show k≠w.heap.size+1;omega)))) (fun b hb=>by have h1:W2.heap.size<=b:=hb;have h2:=HZ2.o;have h3:=HZ0.o;show w.heap.size<=b;omega)):p:=h
section
variable {α:Type} {R:Rep α} {s:Nat} {P:Program} {w:World} {t e:TypeId} {bytes:Nat} {base:Nat} {ok:nP}
theorem XH(E:dZ P t e s bytes)(F:Firm R s){ops:Array Oper}{o:Oper}{a:Act}{K:Act->World->Prop}{Q:Exit->Act->World->Prop}{G:Prop}(m:o.guard=none)(f x:Operand)
 (n:o.op=.call {callee:= .builtin .append,args:=#[f,x],argTypes:=#[t,t]})
 (v:Value)(l:List α)(p:a.eval f=v)(i:aM R s e w base ok v l)
 (g:Value)(y:List α)(q:a.eval x=g)(r:aH R w (fun b=>ok b/\b<w.heap.size/\some b≠v.ownBlock) g y)
 (h63:l.length+y.length<=1000000)(k:bytes<=10000)(j:base<=w.heap.size)
 (h:∀l',Hid (l'=l++y)->∀c d w',aM R s e w' base ok (.slice c l'.length d) l'->w.grownBy w' v.ownBlock->((Value.slice c l'.length d).ownBlock=v.ownBlock\/(Value.slice c l'.length d).ownBlock=some w.heap.size)->K (a.put o.dst (.slice c l'.length d)) w'):if Region.wanted o (yielded ops a.tmps)=true then Oper.wp P o a w K Q else G:=by
 rw[iP (by simp[Region.wanted,m])];exact Mp E F f x n v l p i g y q r h63 k j h
end
theorem IV{first:Bool}{m:Mk}{l:List Rs}{k:Nat}(a:k<l.length):gM first m (l.drop k)=if l[k].1≠m then gM first m (l.drop (k+1)) else if first=true then l[k].2 else l[k].2++gM first m (l.drop (k+1)):=by
 rw[List.drop_eq_getElem_cons a];rfl
theorem MH(first:Bool)(m:Mk):∀l:List Rs,(gM first m l).length<=(l.map (·.2.length)).sum
 | []=>Nat.zero_le _
 |x::l=>by
  have:=MH first m l
  unfold gM;rw[List.map_cons,List.sum_cons];split
  .omega
  split
  .omega
  .rw[aL];omega
theorem Sh(l:List Rs)(k:Nat)(a:k<l.length):(l.take k).map (·.1)++[l[k].1]=(l.take (k+1)).map (·.1):=by
 rw[List.take_succ_eq_append_getElem a,List.map_append];rfl
theorem Ms{ok okp:nP}{lv:Nat}(p:Po)(vt vr vk vo:Value)(t:Nat)(ht:t<=2)(vp:Value)(parts:List Rs)(w:World)(hp:fO lv w okp p vt vr vk vo)(h:aH Mo w ok vp parts)(hn:(parts.map (·.2.length)).sum<=900000)(ho:p.aD4.length<=50000)(ba:parts.length<=100000):
 Calls prog 188 #[.agg #[.string p.id,.bool p.set,.int .i64 p.alg,vt,vr,vk,vo],.int .i64 t,vp] w (nG (sA p.alg p.aD4 t parts) w):=by
 obtain⟨ta,tc,rfl,_⟩:=hp.2.2.1.slice;obtain⟨ra,rc,rfl,_⟩:=hp.2.2.2.1.slice;obtain⟨ka,kc,rfl,_⟩:=hp.2.2.2.2.1.slice;obtain⟨oa,oc,rfl,_⟩:=hp.2.2.2.2.2.slice;obtain⟨pa,pc,rfl,bx⟩:=h.slice;have HS:=aA h;have HOB:=aA hp.2.2.2.2.2;obtain⟨S,aq⟩:∃S:Obj,S=.cells (kR p ta tc ra rc ka kc oa oc) 60:=⟨_,rfl⟩;obtain⟨T,ar⟩:∃T:Obj,T=.cells #[.complex .f64 0 0,.slice none 0 0] 96:=⟨_,rfl⟩;obtain⟨W0,ah⟩:=xE ((w.alloc S).alloc T);have av:=aA (ah▸MC w S T:Kp w w.heap.size (w.heap.size+1) S T W0);rw[aq,ar] at ah;obtain⟨bo,bk,bl⟩:=aZ ah aq ar;have N:∀x∈parts.map (·.1),Cm.fE x=true:=fun x Q=>by
  obtain⟨r,hr,rfl⟩:=List.mem_map.1 Q;obtain⟨k,hk,rfl⟩:=List.getElem_of_mem hr;obtain⟨_,_,_,_,_,_,⟨_,_,hh⟩,_⟩:=aH.at kU h hk qe;exact hh.1
 have bh:=aA N;obtain⟨m,hm⟩:∃m,CH p.alg (parts.map (·.1))=m:=⟨_,rfl⟩;have az:=aA (hm▸QZ p.alg (parts.map (·.1)) N:Cm.fE m=true);have au:=aA (fun (a:oD) (c:Nat) (w':World) (hs:Sl w' w'.heap.size a (Cm.vm (parts.map (·.1))))=>Cm.Bn p.alg a c parts.length (parts.map (·.1)) (by rw[List.length_map]) w' _ (by unfold maxLen;omega) (fun x Q=>zG (N x Q)) hs);have ay:=aA ((Xs p.alg (parts.map (·.1)) N).trans hm);have z:Hid (sA p.alg p.aD4 t parts=if t=0 then ((0,0),[]) else if t=1 then (uE m,[]) else if m≠(4,0)/\m≠(0,4) then (m,[]) else (m,gM (decide (p.alg=3)) m parts++gV p.aD4 m)):=aA (by unfold sA;simp only[hm]);obtain⟨J,hJ⟩:∃J,sA p.alg p.aD4 t parts=J:=⟨_,rfl⟩;rw[hJ] at z ⊢;obtain⟨HN,bm,bn⟩:=aZ hn ho ba;have bz:=uR;obtain⟨alg,br⟩:∃alg,p.alg=alg:=⟨_,rfl⟩;clear h hp ah aq ar N hm hJ hn ho ba br alg;go_enter func188,ntmps188;go_wp2;rw[<-bo.o];go_loopw [7,17] (fun v i wr=>∃(k:Nat) (a':oD) (c':Nat),k<=parts.length/\i=.int .i64 k/\v=.slice a' k c'/\Hid (aM MkR 1 35 wr W0.heap.size (fun _=>True) (.slice a' k c') ((parts.take k).map (·.1)))/\Hid (Below W0.heap.size W0 wr)) (fun _ i _=>parts.length - (intOf i).toNat)
 case atStart=>exact⟨0,none,0,qo,rfl,rfl,aA aM.nil,aA (Below.refl _ _)⟩
 case round=>
  obtain⟨k,a',c',hk,rfl,rfl,HG,G⟩:=hrel;by_cases y:k<parts.length
  .have M:(k:Int)<(parts.length:Int):=qo;obtain⟨b,off,r,rfl,_,a7,⟨vx,rfl,d⟩,j⟩:=aH.at kU (HS.o.on kU (aC av.o.1 G.o)) y qe;obtain⟨xa,xc,rfl,_⟩:=d.2.slice;have B:=j 0 _ rfl;have x1:=j 1 _ rfl;rw[Nat.add_zero] at B;obtain⟨HTF,bf,ax,HSZ⟩:=dH (Sh parts k y) d.1 (show ((parts.take k).map (·.1)).length=k by rw[List.length_map,List.length_take];omega) G.o.size;clear j d;generalize parts[k]=x at *;have bd:=qB G (aB wr (.cells #[.complex .f64 (Cm.qb x.1.1) (Cm.qb x.1.2),.slice xa x.2.length xc] 96));obtain⟨be,bj,HG2⟩:=aZ (aC bd.o (aB _ (.cells #[.complex .f64 (Cm.qb x.1.1) (Cm.qb x.1.2)] 35))) (aK (wr.alloc (.cells #[.complex .f64 (Cm.qb x.1.1) (Cm.qb x.1.2),.slice xa x.2.length xc] 96)) (.cells #[.complex .f64 (Cm.qb x.1.1) (Cm.qb x.1.2)] 35) (wr.heap.size+1) qs) (HG.o.on Mn (aC (aB wr (.cells #[.complex .f64 (Cm.qb x.1.1) (Cm.qb x.1.2),.slice xa x.2.length xc] 96)) (aB _ (.cells #[.complex .f64 (Cm.qb x.1.1) (Cm.qb x.1.2)] 35))));clear HG;go_wp2_with (at_builtin;refine cC (base:=W0.heap.size) aDu Mn rfl (.tmp 21) (.tmp 24) rfl _ ((parts.take k).map (·.1)) rfl HG2.o (wr.heap.size+1) 1 _ _ _ x.1 rfl bj.o ⟨rfl,bf.o⟩ (by rw[ax.o];have:=bn.o;omega) qo (by have:=HSZ.o;simp only[World.size_alloc];omega) ?_;intro l' s A' c2 A hG hgr hat';have HG9:=aA hG;have HB9:=aA (HG2.o.below be.o hgr (lR _) (by have:=HSZ.o;simp only[World.size_alloc];omega));have HL9:=aA s.o;clear hG hgr hat' s)
   have e9:l'.length=k+1:=by rw[HL9.o,aL,ax.o];rfl
   exact QBU
  .have M:¬(k:Int)<(parts.length:Int):=qo;obtain rfl:k=parts.length:=qo;obtain⟨wo,rfl⟩:∃wo:World,wo=wr:=⟨_,rfl⟩;have hG:=HG.o;rw[List.take_of_length_le (lR _)] at hG;obtain⟨cs,h1,h2⟩:=hG;have bs:=XC h2;subst bs;obtain⟨aw,cw,H,_,h3,_⟩:=lX h1;injection H with H e2 I;subst H I;have U:=aA (au.o a' c' wo h3);have ai:=aA (av.o.on G.o);have PB:=aA (by have h:=ai.o.2.1;rw[bk.o] at h;exact h:wo.heap[w.heap.size]? =some (.cells (kR p ta tc ra rc ka kc oa oc) 60 (0,0)));have RB:=aA (by have h:=ai.o.2.2;rw[bl.o] at h;exact h:wo.heap[w.heap.size+1]? =some (.cells #[.complex .f64 0 0,.slice none 0 0] 96 (0,0)));clear h1 h2 h3 e2 HG G;obtain⟨⟨v0,v1,v2,v3,v4,v5,v6⟩,_⟩:=bI PB.o;obtain⟨⟨u0,u1⟩,f0,f1⟩:=fL RB.o;have zv:=aD PB.o;have zu:=aD RB.o;unfold Cm.mkE at U;rw[ay.o] at U;go_wp2_with fail;refine U.o.mono ?_;rintro e wx ⟨rfl,rfl⟩;clear U;clear v0 v1 v2 v3 v4 v5 v6 zv;have HBW:=aA ai.o.1;have bu:t=0\/t=1\/t=2:=qo
   rcases bu with bb|bc|bt
   .have a6:((t:Int)==0)=true:=bQ.2 qo;have HJ2:=aA (by have h:=z.o;rwa [iP bb] at h:J=((0,0),[]));clear z bb ht;exact QCH
   .have a6:((t:Int)==0)=false:=bN.2 qo;have bq:((t:Int)==1)=true:=bQ.2 qo;have HJ2:=aA (by have h:=z.o;rwa [iN qo,iP bc] at h:J=(uE m,[]));have bg:Hid (∀w,Calls prog 230 #[.complex .f64 (Cm.qb m.1) (Cm.qb m.2)] w fun e w'=>e=.returned (.complex .f64 (Cm.qb (uE m).1) (Cm.qb (uE m).2))/\w=w'):=aA (fun w=>Cm.aBU m (zG az.o) w);generalize uE m=mi at *;clear z bc ht;go_wp2_with fail;refine(bg.o _).mono ?_;rintro e wx ⟨rfl,rfl⟩;go_wp2;refine bR (.agg #[.complex .f64 (Cm.qb mi.1) (Cm.qb mi.2),.slice none 0 0]) ?_;exact tQ (a:=mi.1) (b:=mi.2) HJ2.o (oH HBW.o (Nat.le_succ _)) rfl rfl
   .have a6:((t:Int)==0)=false:=bN.2 qo;have bq:((t:Int)==1)=false:=bN.2 qo;have HJ2:=aA (by have h:=z.o;rwa [iN qo,iN qo] at h:J=if m≠(4,0)/\m≠(0,4) then (m,[]) else (m,gM (decide (p.alg=3)) m parts++gV p.aD4 m));obtain⟨PP,K⟩:∃P,decide (m=(4,0))=P:=⟨_,rfl⟩;obtain⟨DD,hD⟩:∃D,decide (m=(0,4))=D:=⟨_,rfl⟩;have F:=zG az.o;have W:Hid (((FloatKind.f64.format.order (Cm.qb m.1) 4607182418800017408==some .eq)&&(FloatKind.f64.format.order (Cm.qb m.2) 0==some .eq))=PP):=aA ((Cm.iX m.1 m.2 4 0 F qe qe).trans ((sP m (4,0)).trans K));have X:Hid (((FloatKind.f64.format.order (Cm.qb m.1) 0==some .eq)&&(FloatKind.f64.format.order (Cm.qb m.2) 4607182418800017408==some .eq))=DD):=aA ((Cm.iX m.1 m.2 0 4 F qe qe).trans ((sP m (0,4)).trans hD));have Y:Hid (∀x:Mk,Cm.fE x=true->((FloatKind.f64.format.order (Cm.qb x.1) (Cm.qb m.1)==some .eq)&&(FloatKind.f64.format.order (Cm.qb x.2) (Cm.qb m.2)==some .eq))=decide (x=m)):=aA (fun x Q=>(Cm.iX x.1 x.2 m.1 m.2 (zG Q) F.1 F.2).trans (sP x m));have HDU:Hid (∀w' ok v,aH kE w' ok v p.aD4->Calls prog 231 #[v,.complex .f64 (Cm.qb m.1) (Cm.qb m.2)] w' (wX (gV p.aD4 m) w')):=aA (fun w' ok v h=>yH v p.aD4 m F w' h);have HDL:Hid ((gV p.aD4 m).length<=50000):=aA (lT (List.length_filter_le _ _) bm.o);obtain⟨ma,an⟩:∃ma,Cm.qb m.1=ma:=⟨_,rfl⟩;obtain⟨mb,ao⟩:∃mb,Cm.qb m.2=mb:=⟨_,rfl⟩;rw[an,ao] at W X Y HDU ⊢;have HMA2:=aA an;have HMB2:=aA ao;unfold wX at HDU;have aj:Hid ((PP=false/\DD=false/\J=(m,[]))\/((PP=true\/(PP=false/\DD=true))/\J=(m,gM (decide (p.alg=3)) m parts++gV p.aD4 m))):=aA (by
     have hj:=HJ2.o;by_cases h4:m=(4,0)
     .rw[iN (fun h=>h.1 h4)] at hj;exact .inr ⟨.inl (by rw[<-K];exact dX h4),hj⟩
     .by_cases h5:m=(0,4)
      .rw[iN (fun h=>h.2 h5)] at hj;exact .inr ⟨.inr ⟨by rw[<-K];exact dF h4,by rw[<-hD];exact dX h5⟩,hj⟩
      .rw[iP ⟨h4,h5⟩] at hj;exact .inl ⟨by rw[<-K];exact dF h4,by rw[<-hD];exact dF h5,hj⟩)
    clear z HJ2 K hD an ao F bt ht ay au bh
    rcases aj.o with ⟨rfl,rfl,hj⟩|⟨a8,hj⟩
    .have HJ3:=aA hj;have H:=W.o;have e2:=X.o;clear hj Y aj;go_wp2;refine bR (.agg #[.complex .f64 ma mb,.slice none 0 0]) ?_;exact tQ (a:=m.1) (b:=m.2) HJ3.o (oH HBW.o (Nat.le_succ _)) HMA2.o HMB2.o
    have HJ3:=aA hj;have a1:=aA a8;clear hj a8 aj u0 u1 f0 f1 zu;obtain⟨RES,O⟩:=xE (gM (decide (p.alg=3)) m parts);rw[<-O] at HJ3;obtain⟨first,al⟩:∃f,decide (p.alg=3)=f:=⟨_,rfl⟩;rw[al] at O;have HR0:=aA (by rw[List.nil_append,List.drop_zero];exact O.symm:([]:List Ob)++gM first m (parts.drop 0)=RES);have HRL:Hid (RES.length<=900000):=aA (by rw[O];exact lT (MH _ _ _) HN.o);have bw:(p.alg==3)=first:=al
    obtain⟨W2,L⟩:=xE (wo.alloc (.cells #[.complex .f64 ma mb,.slice none 0 0] 96));obtain⟨bp,OB0,HZ2,HB0,HZ0⟩:=gJ L (L▸aK wo (.cells #[.complex .f64 ma mb,.slice none 0 0] 96) _ rfl:W2.heap[wo.heap.size]? =some (.cells #[.complex .f64 ma mb,.slice none 0 0] 96 (0,0))) (by rw[L,World.size_alloc]:W2.heap.size=wo.heap.size+1) (L▸aB wo _:Below wo.heap.size wo W2) (aD RB.o);clear O al L;go_upto_region 12 with (fail)
    go_cut [44] from 45 to 50 (fun v w'=>v=.bool false/\wo=w')
    case first=>
     rcases a1.o with rfl|⟨rfl,rfl⟩
     all_goals
      have H:=W.o;have e2:=X.o;go_wp2;go_meet;exact⟨rfl,rfl⟩
    case rest=>
     obtain⟨hv,hw⟩:=hcut;subst hv;subst hw;clear W X a1;go_wp2;rw[<-bp.o]
     rcases first with _|_
     .go_loopw [57] (fun i wr=>∃(k n:Nat) (a2:oD) (c2:Nat) (st:List Ob),k<=parts.length/\i=.int .i64 k/\Hid (n=st.length)/\Hid (wr.heap[wo.heap.size]? =some (.cells #[.complex .f64 ma mb,.slice a2 n c2] 96 (0,0)))/\Hid (aM kE 3 180 wr W2.heap.size (fun b=>b≠wo.heap.size) (.slice a2 n c2) st)/\Hid (st++gM false m (parts.drop k)=RES)/\Hid (Below wo.heap.size wo wr)/\Hid (W2.heap.size<=wr.heap.size)) (fun i _=>parts.length - (intOf i).toNat)
      case atStart=>exact QDa
      case round=>
       clear HR0 OB0 HB0;obtain⟨k,n,a2,c2,st,hk,rfl,HNS,OBQ,HG,HST,HBQ,HSZ⟩:=hrel;have PBQ:=qK PB HBQ.o;by_cases y:k<parts.length
       .have M:(k:Int)<(parts.length:Int):=qo;obtain⟨b,off,r,rfl,_,a7,⟨vx,rfl,d⟩,j⟩:=aH.at kU ((HS.o.inb kU).aDW kU (aJ (aC HBW.o HBQ.o))) y qe;obtain⟨xa,xc,rfl,_⟩:=d.2.slice;have B:=j 0 _ rfl;have x1:=j 1 _ rfl;rw[Nat.add_zero] at B;obtain⟨HPS,HX3,ak⟩:=aZ (IV (first:=false) (m:=m) y) (Y.o parts[k].1 d.1) d.2;clear j d;generalize parts[k]=x at *;obtain⟨eq,heq⟩:∃q,decide (x.1=m)=q:=⟨_,rfl⟩;rw[heq] at HX3;have I:=HX3.o;obtain⟨⟨y0,y1⟩,g0,g1⟩:=fL OBQ.o;have zy:=aD OBQ.o;obtain⟨⟨v0,v1,v2,v3,v4,v5,v6⟩,_⟩:=bI PBQ.o;have zv:=aD PBQ.o
        cases eq
        .have HST2:Hid (st++gM false m (parts.drop (k+1))=RES):=aA (by have h:=HST.o;rwa [HPS.o,iP (of_decide_eq_false heq)] at h);exact QAK
        .have R:x.1=m:=of_decide_eq_true heq;have HST2:=aA (by have h:=HST.o;rwa [HPS.o,iN (fun h=>h R)] at h:st++(if false=true then x.2 else x.2++gM false m (parts.drop (k+1)))=RES);have aa:Hid (st.length+x.2.length<=900000):=aA (by
          have h1:=HRL.o;rw[<-HST2.o,aL] at h1;split at h1
          .omega
          .rw[aL] at h1;omega)
         have l:=aA (aB wr (.cells #[.complex .f64 (Cm.qb x.1.1) (Cm.qb x.1.2),.slice xa x.2.length xc] 96));obtain⟨HG2,OBQ2,HBQ2⟩:=aZ (HG.o.on aO l.o) (aE OBQ.o l.o) (aC HBQ.o l.o);have C:=aA (HG2.o.lt);have ad:=aA (aH.more aO (aH.on aO ak.o l.o) (ok':=fun b=>b≠wo.heap.size/\b<(wr.alloc (.cells #[.complex .f64 (Cm.qb x.1.1) (Cm.qb x.1.2),.slice xa x.2.length xc] 96)).heap.size/\some b≠(Value.slice a2 n c2).ownBlock) (fun b hb=>⟨qD hb.2 HZ0.o,by have h1:=hb.2;have h2:=HZ0.o;have h3:=HBQ2.o.size;omega,fun e=>by
          have h1:=(C.o b e.symm).1;have h2:=hb.2;have h3:=HZ2.o;have h4:=HZ0.o;omega⟩))
         have ag:=aA (aD OBQ2.o);have HSZ2:Hid (W2.heap.size<=(wr.alloc (.cells #[.complex .f64 (Cm.qb x.1.1) (Cm.qb x.1.2),.slice xa x.2.length xc] 96)).heap.size):=aA (by have:=HSZ.o;rw[World.size_alloc];omega);clear heq HPS HST HG HX3 R;go_wp2_with (at_builtin;refine BI (base:=W2.heap.size) XB aO rfl (.tmp 66) (.tmp 68) rfl _ st rfl HG2.o _ x.2 rfl ad.o (qA aa.o) qe HSZ2.o ?_;intro l' s A' c3 A hG hgr hat';have HG9:=aA hG;have HL9:=aA s.o;have o:=aA ((hgr.block _ ag.o (fun e=>by have h1:=(C.o _ e.symm).1;have h2:=HZ2.o;omega)).trans OBQ2.o);have HB9:=aA (HG2.o.below HBQ2.o hgr (qA HZ2.o) HSZ2.o);have ab:=aA (lT HSZ2.o hgr.size);obtain⟨⟨s0,s1⟩,t0,t1⟩:=fL o.o;have zs:=aD o.o;clear y0 y1 g0 g1 zy v0 v1 v2 v3 v4 v5 v6 zv B x1 I hG hgr hat' s;have E:=qK PB HB9.o;obtain⟨⟨v0,v1,v2,v3,v4,v5,v6⟩,_⟩:=bI E.o;have zv:=aD E.o)
         have af:Hid ((A.setCell ⟨wo.heap.size,1,none⟩ (.slice A' l'.length c3)).heap[wo.heap.size]? =some (.cells #[.complex .f64 ma mb,.slice A' l'.length c3] 96 (0,0))):=aA (aG o.o 1 (.slice A' l'.length c3));have Z:=aA (HG9.o.aDW aO (ok':=fun b=>b≠wo.heap.size) (aI (g:=wo.heap.size) (i:=1) (.slice A' l'.length c3)) (fun b hb _=>hb) (fun b hb _=>qA HZ2.o));have ae:Hid (W2.heap.size<=(A.setCell ⟨wo.heap.size,1,none⟩ (.slice A' l'.length c3)).heap.size):=aA (lT ab.o (aI (g:=wo.heap.size) (i:=1) (.slice A' l'.length c3)).size);have V:=aA (HB9.o.setCell (p:=⟨wo.heap.size,1,none⟩) (lR _) (.slice A' l'.length c3));go_wp2;go_roundw
         case rel=>exact⟨k+1,l'.length,A',c3,l',qo,by go_num,aA rfl,af,Z,aA (by have h:=HST2.o;rw[iN qe,<-List.append_assoc,<-HL9.o] at h;exact h),V,ae⟩
         case measure=>simp[intOf];omega
       .have M:¬(k:Int)<(parts.length:Int):=qo;obtain rfl:k=parts.length:=qo;have HRS:Hid (st=RES):=aA (by have h:=HST.o;rw[List.drop_length] at h;have e:gM false m []=[]:=rfl;rwa [e,List.append_nil] at h);exact QAd
     .go_loopw [57] (fun i wr=>∃(k n:Nat) (a2:oD) (c2:Nat) (st:List Ob),k<=parts.length/\i=.int .i64 k/\Hid (n=st.length)/\Hid (wr.heap[wo.heap.size]? =some (.cells #[.complex .f64 ma mb,.slice a2 n c2] 96 (0,0)))/\Hid (aM kE 3 180 wr W2.heap.size (fun b=>b≠wo.heap.size) (.slice a2 n c2) st)/\Hid (st++gM true m (parts.drop k)=RES)/\Hid (Below wo.heap.size wo wr)/\Hid (W2.heap.size<=wr.heap.size)) (fun i _=>parts.length - (intOf i).toNat)
      case atStart=>exact QDa
      case round=>
       clear HR0 OB0 HB0;obtain⟨k,n,a2,c2,st,hk,rfl,HNS,OBQ,HG,HST,HBQ,HSZ⟩:=hrel;have PBQ:=qK PB HBQ.o;by_cases y:k<parts.length
       .have M:(k:Int)<(parts.length:Int):=qo;obtain⟨b,off,r,rfl,_,a7,⟨vx,rfl,d⟩,j⟩:=aH.at kU ((HS.o.inb kU).aDW kU (aJ (aC HBW.o HBQ.o))) y qe;obtain⟨xa,xc,rfl,_⟩:=d.2.slice;have B:=j 0 _ rfl;have x1:=j 1 _ rfl;rw[Nat.add_zero] at B;obtain⟨HPS,HX3,ak⟩:=aZ (IV (first:=true) (m:=m) y) (Y.o parts[k].1 d.1) d.2;clear j d;generalize parts[k]=x at *;obtain⟨eq,heq⟩:∃q,decide (x.1=m)=q:=⟨_,rfl⟩;rw[heq] at HX3;have I:=HX3.o;obtain⟨⟨y0,y1⟩,g0,g1⟩:=fL OBQ.o;have zy:=aD OBQ.o;obtain⟨⟨v0,v1,v2,v3,v4,v5,v6⟩,_⟩:=bI PBQ.o;have zv:=aD PBQ.o
        cases eq
        .have HST2:Hid (st++gM true m (parts.drop (k+1))=RES):=aA (by have h:=HST.o;rwa [HPS.o,iP (of_decide_eq_false heq)] at h);exact QAK
        .have R:x.1=m:=of_decide_eq_true heq;have HST2:=aA (by have h:=HST.o;rwa [HPS.o,iN (fun h=>h R)] at h:st++(if true=true then x.2 else x.2++gM true m (parts.drop (k+1)))=RES);have aa:Hid (st.length+x.2.length<=900000):=aA (by
          have h1:=HRL.o;rw[<-HST2.o,aL] at h1;split at h1
          .omega
          .rw[aL] at h1;omega)
         have l:=aA (aB wr (.cells #[.complex .f64 (Cm.qb x.1.1) (Cm.qb x.1.2),.slice xa x.2.length xc] 96));obtain⟨HG2,OBQ2,HBQ2⟩:=aZ (HG.o.on aO l.o) (aE OBQ.o l.o) (aC HBQ.o l.o);have C:=aA (HG2.o.lt);have ad:=aA (aH.more aO (aH.on aO ak.o l.o) (ok':=fun b=>b≠wo.heap.size/\b<(wr.alloc (.cells #[.complex .f64 (Cm.qb x.1.1) (Cm.qb x.1.2),.slice xa x.2.length xc] 96)).heap.size/\some b≠(Value.slice a2 n c2).ownBlock) (fun b hb=>⟨qD hb.2 HZ0.o,by have h1:=hb.2;have h2:=HZ0.o;have h3:=HBQ2.o.size;omega,fun e=>by
          have h1:=(C.o b e.symm).1;have h2:=hb.2;have h3:=HZ2.o;have h4:=HZ0.o;omega⟩))
         have ag:=aA (aD OBQ2.o);have HSZ2:Hid (W2.heap.size<=(wr.alloc (.cells #[.complex .f64 (Cm.qb x.1.1) (Cm.qb x.1.2),.slice xa x.2.length xc] 96)).heap.size):=aA (by have:=HSZ.o;rw[World.size_alloc];omega);clear heq HPS HST HG HX3 R;go_wp2_with (at_builtin;refine BI (base:=W2.heap.size) XB aO rfl (.tmp 66) (.tmp 68) rfl _ st rfl HG2.o _ x.2 rfl ad.o (qA aa.o) qe HSZ2.o ?_;intro l' s A' c3 A hG hgr hat';have HG9:=aA hG;have HL9:=aA s.o;have o:=aA ((hgr.block _ ag.o (fun e=>by have h1:=(C.o _ e.symm).1;have h2:=HZ2.o;omega)).trans OBQ2.o);have HB9:=aA (HG2.o.below HBQ2.o hgr (qA HZ2.o) HSZ2.o);have ab:=aA (lT HSZ2.o hgr.size);obtain⟨⟨s0,s1⟩,t0,t1⟩:=fL o.o;have zs:=aD o.o;clear y0 y1 g0 g1 zy v0 v1 v2 v3 v4 v5 v6 zv B x1 I hG hgr hat' s;have E:=qK PB HB9.o;obtain⟨⟨v0,v1,v2,v3,v4,v5,v6⟩,_⟩:=bI E.o;have zv:=aD E.o)
         have af:Hid ((A.setCell ⟨wo.heap.size,1,none⟩ (.slice A' l'.length c3)).heap[wo.heap.size]? =some (.cells #[.complex .f64 ma mb,.slice A' l'.length c3] 96 (0,0))):=aA (aG o.o 1 (.slice A' l'.length c3));have Z:=aA (HG9.o.aDW aO (ok':=fun b=>b≠wo.heap.size) (aI (g:=wo.heap.size) (i:=1) (.slice A' l'.length c3)) (fun b hb _=>hb) (fun b hb _=>qA HZ2.o));have ae:Hid (W2.heap.size<=(A.setCell ⟨wo.heap.size,1,none⟩ (.slice A' l'.length c3)).heap.size):=aA (lT ab.o (aI (g:=wo.heap.size) (i:=1) (.slice A' l'.length c3)).size);have V:=aA (HB9.o.setCell (p:=⟨wo.heap.size,1,none⟩) (lR _) (.slice A' l'.length c3));have HRS:Hid (l'=RES):=aA (by have h:=HST2.o;rw[iP trivial,<-HL9.o] at h;exact h);have n3:¬w.heap.size=wo.heap.size:=qA HZ0.o;have n4:¬wo.heap.size=w.heap.size:=qA HZ0.o;go_wp2;obtain⟨WW,hWW⟩:∃WW:World,WW=A.setCell ⟨wo.heap.size,1,none⟩ (.slice A' l'.length c3):=⟨_,rfl⟩;rw[<-hWW] at af Z ae V ⊢;clear hWW;clear s0 s1 t0 t1 zs v0 v1 v2 v3 v4 v5 v6 zv HST2 HG2 OBQ2 HBQ2 HSZ2 o HG9 HB9 ab E C ad ag l PBQ aa;obtain⟨OBWW,HGW,HBT,HSW⟩:=dH af.o Z.o V.o ae.o;have PBWW:=qK PB HBT.o;obtain⟨⟨y0,y1⟩,g0,g1⟩:=fL OBWW.o;have zy:=aD OBWW.o;obtain⟨⟨v0,v1,v2,v3,v4,v5,v6⟩,_⟩:=bI PBWW.o;have zv:=aD PBWW.o;have RBWW:=qK RB HBT.o;have HDW:=aA (fun (w':World) (hb:Below WW.heap.size WW w')=>HDU.o w' okp _ (HOB.o.on aO (aC HBW.o (aC HBT.o hb))));go_region_law (first
          |(go_simp;go_at_call 231;refine(HDW.o _ (Below.refl _ _).drew).mono ?_;rintro e wd ⟨dv,rfl,hds,hbd⟩;obtain⟨da,dc,rfl,_⟩:=hds.slice;have HBD:=aA (aC (Below.refl WW.heap.size WW).drew hbd);have HDS:=aA (hds.inb aO);have OBD:=qK OBWW HBD.o;obtain⟨⟨z0,z1⟩,h0,h1⟩:=fL OBD.o;have zz:=aD OBD.o;clear hbd hds)
          |(refine XH (base:=W2.heap.size) XB aO rfl (.tmp 76) (.tmp 80) rfl _ l' rfl (HGW.o.on aO HBD.o) _ (gV p.aD4 m) rfl (aH.more aO HDS.o (fun b hb=>⟨by have h1:=hb.1;have h2:=aD OBWW.o;have h3:WW.heap.size<=b:=h1;omega,hb.2,fun e=>by have h1:WW.heap.size<=b:=hb.1;have h2:=(HGW.o.lt b e.symm).2;omega⟩)) (by have h1:=HRL.o;have h2:=HDL.o;rw[<-HRS.o] at h1;omega) qe (lT HSW.o HBD.o.size) ?_;intro l2 hl2 A2 c4 w10 hG hgr hat';have HG10:=aA hG;have HL10:=aA hl2.o;have HB10:=aA ((HGW.o.on aO HBD.o).below (aC HBT.o HBD.o) hgr (qA HZ2.o) (lT HSW.o HBD.o.size));have OB10:=aA ((hgr.block wo.heap.size zz (fun e=>by have h1:=(HGW.o.lt _ e.symm).1;have h2:=HZ2.o;omega)).trans OBD.o);obtain⟨⟨s0',s1'⟩,t0',t1'⟩:=fL OB10.o;have zs':=aD OB10.o;clear hG hgr hat' hl2))
         all_goals
          have RB10:=qK RB HB10.o;obtain⟨⟨u0,u1⟩,f0,f1⟩:=fL RB10.o;have zu:=aD RB10.o;have n1:¬w.heap.size+1=wo.heap.size:=qA HZ0.o;have n2:¬wo.heap.size=w.heap.size+1:=qA HZ0.o;go_wp2;refine bR (.agg #[.complex .f64 ma mb,.slice A2 l2.length c4]) ?_;refine⟨.slice A2 l2.length c4,by rw[HJ3.o,HMA2.o,HMB2.o],?_,oH (aC HBW.o (HB10.o.setCell (p:=⟨wo.heap.size,1,none⟩) (lR _) _)) (Nat.le_succ _)⟩;have hsl:=(eO (enc:=FA) (good:=yO) (ok':=fun b=>W2.heap.size<=b) HG10.o).sl (by rw[HL10.o,aL,HRS.o];have h1:=HRL.o;have h2:=HDL.o;omega) (fun b=>W2.heap.size<=b) (fun b hb _=>hb) (fun b hb _=>hb) aO;rw[HJ3.o];have e10:l2=RES++gV p.aD4 m:=by rw[HL10.o,HRS.o]
          rw[<-e10];refine aH.more aO (aH.aDW aO hsl (((aI (g:=wo.heap.size) (i:=1) _).mono fun k hk hb=>by have h1:W2.heap.size<=k:=hb;have h2:=HZ2.o;show k≠wo.heap.size;omega).trans ((((aI (g:=w.heap.size+1) (i:=0) _).trans (aI (g:=w.heap.size+1) (i:=1) _)).mono fun k hk hb=>by have h1:W2.heap.size<=k:=hb;have h2:=HZ2.o;have h3:=HZ0.o;show k≠w.heap.size+1;omega)))) (fun b hb=>by have h1:W2.heap.size<=b:=hb;have h2:=HZ2.o;have h3:=HZ0.o;show w.heap.size<=b;omega)
       .have M:¬(k:Int)<(parts.length:Int):=qo;obtain rfl:k=parts.length:=qo;have HRS:Hid (st=RES):=aA (by have h:=HST.o;rw[List.drop_length] at h;have e:gM true m []=[]:=rfl;rwa [e,List.append_nil] at h);exact QAd
def KA:Nat->Po->Prop
 |0,_=>False
 |n+1,p=>p.aDR.length<=16/\p.aD2.length<=16/\p.aD4.length<=8/\(∀r∈p.aDR,r.aD4.length<=8)/\∀k∈p.aD2,KA n k
def yI:Nat->Nat
 |0=>0
 |n+1=>136+16 * yI n
theorem MI{l:List Ob}(h:lK l=0):l.length<=8:=by
 unfold lK at h;by_cases h8:8<l.length
 .rw[iP h8] at h;exact absurd h qe
 .omega
theorem Gn{r:Ru}{s:WS}(h:(fT r s).1=0):r.aD4.length<=8:=by
 unfold fT at h;generalize gU r.id s=q at *;obtain⟨b,s1⟩:=q;simp only at h;by_cases h1:b=false
 .rw[iP h1] at h;simp at h
 rw[iN h1] at h;by_cases h2:64<s1.aDR+1
 .rw[iP h2] at h;simp at h
 rw[iN h2] at h;by_cases h3:fC r.aDY=0
 case neg=>rw[iP h3] at h;exact absurd h h3
 rw[iN (fun a=>a h3)] at h;by_cases h4:lJ r.cond=0
 case neg=>rw[iP h4] at h;exact absurd h h4
 rw[iN (fun a=>a h4)] at h;exact MI h
theorem Gp{p:Po}{s:WS}(h:(fJ p s).1=0):p.aD4.length<=8:=by
 unfold fJ at h;generalize gU p.id s=q at *;obtain⟨b,s1⟩:=q;simp only at h;by_cases h1:b=false\/p.alg<1\/6<p.alg
 .rw[iP h1] at h;simp at h
 rw[iN h1] at h;by_cases h2:(p.set=true/\p.aDR≠[])\/(p.set=false/\(0<p.aD2.length\/p.alg=4))
 .rw[iP h2] at h;simp at h
 rw[iN h2] at h;by_cases h3:fC p.aDY=0
 case neg=>rw[iP h3] at h;exact absurd h h3
 rw[iN (fun a=>a h3)] at h;by_cases h4:lK p.aD4=0
 case neg=>rw[iP h4] at h;exact absurd h h4
 exact MI h4
theorem KC{α:Type}{f:α->WS->Int×WS}{Q:α->Prop}(b:∀x s,(f x s).1=0->Q x):∀(l:List α) (s:WS),(jJ f l s).1=0->∀x∈l,Q x
 | [],_,_,x,a=>by cases a
 |y::l,s,h,x,a=>by
  unfold jJ at h;by_cases h1:(f y s).1=0
  .rcases List.mem_cons.1 a with rfl|a
   .exact b _ _ h1
   .refine KC b l (f y s).2 ?_ x a;simp only[h1,ne_eq,not_true,if_false] at h;exact h
  .simp only[ne_eq,h1,not_false_iff,if_true] at h
theorem Cf:∀(n:Nat) (p:Po) (s:WS),(eS n p s).1=0->KA n p
 |0,_,_,h=>by simp[eS] at h
 |n+1,p,s,h=>by
  unfold eS at h;by_cases h1:(fJ p s).1=0
  case neg=>simp only[ne_eq,h1,not_false_iff,if_true] at h
  simp only[h1,ne_eq,not_true,if_false] at h;by_cases h2:(jJ fT p.aDR (fJ p s).2).1=0
  case neg=>simp only[h2,not_false_iff,if_true] at h
  simp only[h2,not_true,if_false] at h;exact⟨(vO h1).1,(vO h1).2,Gp h1,KC (fun x s a=>Gn a) _ _ h2,KC (fun x s a=>Cf n x s a) _ _ h⟩
theorem MJ{p:Po}(h:fE p=0):KA 4 p:=Cf 4 p _ h
theorem MK(l:List Ob)(m:Mk):(gV l m).length<=l.length:=List.length_filter_le _ _
theorem Mt(g:List Gv)(r:Ru):(iF g r).2.length<=r.aD4.length:=by
 unfold iF EY;simp only;split
 .exact Nat.zero_le _
 split
 .exact Nat.zero_le _
 .exact MK _ _
theorem RG(first:Bool)(m:Mk):∀l:List (Mk×List Ob),(gM first m l).length<=(l.map (·.2.length)).sum
 | []=>Nat.zero_le _
 |x::l=>by
  have:=RG first m l
  unfold gM;rw[List.map_cons,List.sum_cons];split
  .omega
  split
  .omega
  .rw[aL];omega
theorem Mu(alg:Int)(obls:List Ob)(t:Nat)(l:List (Mk×List Ob)):(sA alg obls t l).2.length<=(l.map (·.2.length)).sum+obls.length:=by
 unfold sA;simp only;split
 .exact Nat.zero_le _
 split
 .exact Nat.zero_le _
 split
 .exact Nat.zero_le _
 .have h1:=RG (decide (alg=3)) (CH alg (l.map (·.1))) l;have h2:=MK obls (CH alg (l.map (·.1)));rw[aL];omega
theorem XI{α:Type}(f:α->Nat)(b:Nat):∀l:List α,(∀x∈l,f x<=b)->(l.map f).sum<=l.length * b
 | [],_=>Nat.zero_le _
 |x::l,h=>by
  have h1:=XI f b l (fun y a=>h y (List.mem_cons_of_mem _ a));have h2:=h x (List.mem_cons_self ..);rw[List.map_cons,List.sum_cons,List.length_cons,Nat.add_mul];omega
theorem RH{n:Nat}{p:Po}(g:List Gv)(f:∀k∈p.aD2,(cY g n k).2.length<=yI n)(h:KA (n+1) p):((p.aDR.map (iF g)++p.aD2.map (cY g n)).map (·.2.length)).sum<=128+16 * yI n:=by
 obtain⟨h1,h2,_,h4,_⟩:=h;rw[List.map_append,List.sum_append,List.map_map,List.map_map];have a:=XI (fun r=>(iF g r).2.length) 8 p.aDR (fun r i=>lT (Mt g r) (h4 r i));have b:=XI (fun k=>(cY g n k).2.length) (yI n) p.aD2 f;have c:p.aD2.length * yI n<=16 * yI n:=Nat.mul_le_mul_right _ h2;have d:((fun x:Mk×List Ob=>x.2.length) ∘ iF g)=(fun r=>(iF g r).2.length):=rfl;have e:((fun x:Mk×List Ob=>x.2.length) ∘ cY g n)=(fun k=>(cY g n k).2.length):=rfl;rw[d,e];omega
theorem yJ(g:List Gv):∀(n:Nat) (p:Po),KA n p->(cY g n p).2.length<=yI n
 |0,_,h=>h.elim
 |n+1,p,h=>by
  have b:=RH g (fun k a=>yJ g n k (h.2.2.2.2 k a)) h;unfold cY yI;simp only;split
  .exact Nat.zero_le _
  .have hj:=Mu p.alg p.aD4 (xX g p.aDY) (p.aDR.map (iF g)++p.aD2.map (cY g n));have:=h.2.2.1;omega
theorem Xt:∀n,n<=4->yI n<=600000:=qe
theorem Si{n:Nat}(b:n<=3){p:Po}(g:List Gv)(h:KA (n+1) p):((p.aDR.map (iF g)++p.aD2.map (cY g n)).map (·.2.length)).sum<=900000:=by
 have h1:=RH g (fun k a=>yJ g n k (h.2.2.2.2 k a)) h;have h2:∀n,n<=3->128+16 * yI n<=900000:=qe;have:=h2 n b;omega
theorem IW(g:List Gv)(r:Ru):Cm.fE (iF g r).1=true:=by
 unfold iF EY;simp only;have hm:Cm.fE (if r.aEp=true then ((0,4):Mk) else (4,0))=true:=by split<;>decide
 split
 .decide
 split
 .exact IT hm
 .exact hm
theorem Ac{n:Nat}{g:List Gv}{p:Po}(b:∀k,Cm.fE (cY g n k).1=true):∀m∈(p.aDR.map (iF g)++p.aD2.map (cY g n)).map (·.1),Cm.fE m=true:=by
 intro m hm;obtain⟨x,a,rfl⟩:=List.mem_map.1 hm
 rcases List.mem_append.1 a with a|a
 .obtain⟨r,_,rfl⟩:=List.mem_map.1 a;exact IW g r
 .obtain⟨k,_,rfl⟩:=List.mem_map.1 a;exact b k
theorem vC(g:List Gv):∀(n:Nat) (p:Po),Cm.fE (cY g n p).1=true
 |0,_=>by unfold cY;decide
 |n+1,p=>by
  have hp:=QZ p.alg _ (Ac (n:=n) (g:=g) (p:=p) (fun k=>vC g n k));unfold cY sA;simp only;split
  .rfl
  split
  .exact IT hp
  split
  .exact hp
  .exact hp
def Sj(n:Nat):Prop:=∀(m:Nat) (ok b:nP) (p:Po) (vt vr vk vo a:Value) (g:List Gv) (w:World),KA n p->fO m w b p vt vr vk vo->aH jW w ok a g->
 Calls prog 140 #[.agg #[.string p.id,.bool p.set,.int .i64 p.alg,vt,vr,vk,vo],a] w (nG (cY g n p) w)
theorem XJ(n:Nat)(hn:n<=3)(IH:Sj n):Sj (n+1):=by
 intro lv ok b5 p vt vr vk vo vg g w bl hp h;obtain⟨ga,gc,rfl,_⟩:=h.slice;obtain⟨ta,tc,rfl,_⟩:=hp.2.2.1.slice;obtain⟨ra,rc,rfl,_⟩:=hp.2.2.2.1.slice;obtain⟨ka,kc,rfl,_⟩:=hp.2.2.2.2.1.slice;obtain⟨oa,oc,rfl,_⟩:=hp.2.2.2.2.2.slice;obtain⟨HP,HS,bt,F⟩:=dH hp h IH bl;obtain⟨o1,a6⟩:∃o1:Obj,o1=.cells (kR p ta tc ra rc ka kc oa oc) 60:=⟨_,rfl⟩;obtain⟨o2,a7⟩:∃o2:Obj,o2=.cells #[.complex .f64 0 0,.slice none 0 0] 96:=⟨_,rfl⟩;obtain⟨W0,ag⟩:=xE ((w.alloc o1).alloc o2);have P:=aA (ag▸MC w o1 o2:Kp w w.heap.size (w.heap.size+1) o1 o2 W0);rw[a6,a7] at ag;obtain⟨b0,bu,bw,aq⟩:=dH ag a6 a7 (Bi _ p.aDY _ g W0 (hp.2.2.1.on aS P.o.1) (h.on cA P.o.1));obtain⟨t,ht⟩:∃t,xX g p.aDY=t:=⟨_,rfl⟩;rw[ht] at aq;have bz:Hid (t<=2):=aA (ht▸Cd g p.aDY);have O:Hid (cY g (n+1) p=if t=0 then ((0,0),[]) else sA p.alg p.aD4 t (p.aDR.map (iF g)++p.aD2.map (cY g n))):=aA (by unfold cY;simp only[ht]);obtain⟨J,hJ⟩:∃J,cY g (n+1) p=J:=⟨_,rfl⟩;rw[hJ] at O ⊢;have PB:=aA (by have h:=P.o.2.1;rw[bu.o] at h;exact h:W0.heap[w.heap.size]? =some (.cells (kR p ta tc ra rc ka kc oa oc) 60 (0,0)));have RB:=aA (by have h:=P.o.2.2;rw[bw.o] at h;exact h:W0.heap[w.heap.size+1]? =some (.cells #[.complex .f64 0 0,.slice none 0 0] 96 (0,0)));have b9:=uR;clear h hp ag a6 a7 bl IH hJ ht;go_enter func140,ntmps140;go_wp2_with fail;rw[<-b0.o];refine aq.o.mono ?_;rintro e j ⟨rfl,ae⟩;obtain⟨E,ab,ay⟩:=aZ (P.o.on ae) (aE PB.o ae) (aE RB.o ae);clear aq ae;obtain⟨⟨v0,v1,v2,v3,v4,v5,v6⟩,q0,q1,q2,q3,q4,q5,q6⟩:=bI ab.o;have zv:=aD ab.o;by_cases af:t=0
 .have b3:((t:Int)==0)=true:=bQ.2 qo;have HJ2:=aA (by have h:=O.o;rwa [iP af] at h:J=((0,0),[]));obtain⟨⟨u0,u1⟩,f0,f1⟩:=fL ay.o;have zu:=aD ay.o;have HBW:=aA E.o.1;clear O af;exact QCH
 have b3:((t:Int)==0)=false:=bN.2 qo;have HJ2:=aA (by have h:=O.o;rwa [iN af] at h:J=sA p.alg p.aD4 t (p.aDR.map (iF g)++p.aD2.map (cY g n)));clear O af;go_wp2;go_loopw [6,21] (fun v i wr=>∃(k:Nat) (H:oD) (I:Nat),k<=p.aDR.length/\i=.int .i64 k/\v=.slice H k I/\Hid (aM Mo 2 96 wr j.heap.size (fun b=>j.heap.size<=b) (.slice H k I) ((p.aDR.take k).map (iF g)))/\Hid (Below j.heap.size j wr)) (fun _ i _=>p.aDR.length - (intOf i).toNat)
 case atStart=>exact⟨0,none,0,qo,rfl,rfl,aA aM.nil,aA (Below.refl _ _)⟩
 case round=>
  obtain⟨k,H,I,hk,rfl,rfl,l,c⟩:=hrel;by_cases A:k<p.aDR.length
  .have a1:(k:Int)<(p.aDR.length:Int):=qo;obtain⟨b,off,rr,rfl,_,b4,⟨b7,ca,b6,rfl,Z⟩,W⟩:=aH.at bM ((HP.o.2.2.2.1.inb bM).on bM (aC E.o.1 c.o)) A qe;obtain⟨aj,ak,rfl,_⟩:=Z.2.1.slice;obtain⟨b1,b2,rfl,_⟩:=Z.2.2.1.slice;obtain⟨ah,ai,rfl,_⟩:=Z.2.2.2.slice;obtain⟨x0,x1,x2,x3,x4⟩:=KP W;rw[Nat.add_zero] at x0;have HTF:Hid ((p.aDR.take k).map (iF g)++[iF g p.aDR[k]]=(p.aDR.take (k+1)).map (iF g)):=aA (by rw[List.take_succ_eq_append_getElem A,List.map_append];rfl);obtain⟨Q,S,b8,R,T⟩:=gJ (show ((p.aDR.take k).map (iF g)).length=k by rw[List.length_map,List.length_take];omega) (IW g p.aDR[k]) c.o.size (show p.aDR.length<=16 from F.o.1) Z;clear W Z;generalize p.aDR[k]=r at *;have z:=aA (aB wr (.cells #[.string r.id,.bool r.aEp,.slice aj r.aDY.length ak,.slice b1 r.cond.length b2,.slice ah r.aD4.length ai] 269));obtain⟨f,C,M⟩:=aZ (Mm r _ _ _ _ g _ (T.o.aDW (aJ z.o)) (HS.o.on cA (aC E.o.1 (aC c.o z.o)))) (l.o.on kU z.o) (aC c.o z.o);unfold nG at f;obtain⟨a,aa⟩:∃a,iF g r=a:=⟨_,rfl⟩;rw[aa] at f HTF S;clear l c T aa;go_wp2_with fail;refine f.o.mono ?_;rintro e d ⟨bq,rfl,x,s⟩;obtain⟨m,o,rfl,_⟩:=x.slice;have B:=qB M s;obtain⟨al,au,N,ao,D⟩:=gJ (aC B.o (aB d (.cells #[.complex .f64 (Cm.qb a.1.1) (Cm.qb a.1.2),.slice m a.2.length o] 96))) (aK d (.cells #[.complex .f64 (Cm.qb a.1.1) (Cm.qb a.1.2),.slice m a.2.length o] 96) d.heap.size qs) (C.o.on kU (aC s (aB d (.cells #[.complex .f64 (Cm.qb a.1.1) (Cm.qb a.1.2),.slice m a.2.length o] 96)))) C.o.lt (x.inb aO);have aw:=aA (aH.more aO (aH.on aO D.o (aB d (.cells #[.complex .f64 (Cm.qb a.1.1) (Cm.qb a.1.2),.slice m a.2.length o] 96))) (ok':=fun b=>j.heap.size<=b/\b<(d.alloc (.cells #[.complex .f64 (Cm.qb a.1.1) (Cm.qb a.1.2),.slice m a.2.length o] 96)).heap.size/\some b≠(Value.slice H k I).ownBlock) (fun b q=>⟨lT M.o.size q.1,by have:=q.2;rw[World.size_alloc];omega,fun e=>absurd (ao.o b e.symm).2 (Nat.not_lt.2 q.1)⟩))
   clear f C D x s;go_wp2_with (at_builtin;refine cC (base:=j.heap.size) aAv kU rfl (.tmp 25) (.tmp 29) rfl _ ((p.aDR.take k).map (iF g)) rfl N.o d.heap.size 1 _ _ _ a rfl au.o ⟨_,rfl,S.o,aw.o⟩ (by rw[Q.o];have:=R.o;omega) qo (by have:=B.o.size;rw[World.size_alloc];omega) ?_;intro l' Y A' c2 w9 U X az;have HG9:=aA U;have HB9:=aA (N.o.below al.o X (lR _) (by have:=B.o.size;rw[World.size_alloc];omega));have HL9:=aA Y.o;clear U X az Y)
   have e9:l'.length=k+1:=by rw[HL9.o,aL,Q.o];rfl
   exact QBU
  .have a1:¬(k:Int)<(p.aDR.length:Int):=qo;obtain rfl:k=p.aDR.length:=qo;obtain⟨wo,rfl⟩:∃wo:World,wo=wr:=⟨_,rfl⟩;rw[List.take_of_length_le (lR _)] at l;obtain⟨y,ad⟩:∃y,p.aDR.map (iF g)=y:=⟨_,rfl⟩;have bb:Hid (y.length=p.aDR.length):=aA (by rw[<-ad,List.length_map]);rw[ad] at l HJ2;have bc:=aA ad;have a8:Hid (aM Mo 2 96 wo j.heap.size (fun b=>j.heap.size<=b) (.slice H p.aDR.length I) (y++(p.aD2.take 0).map (cY g n))):=aA (by have:=l.o;rw[List.take_zero,List.map_nil,List.append_nil];exact this);obtain⟨ax,R,an⟩:=aZ (aE ab.o c.o) (show p.aDR.length<=16 from F.o.1) (show p.aD2.length<=16 from F.o.2.1);clear v0 v1 v2 v3 v4 v5 v6 q0 q1 q2 q3 q4 q5 q6 zv ad l A hk;obtain⟨⟨v0,v1,v2,v3,v4,v5,v6⟩,q0,q1,q2,q3,q4,q5,q6⟩:=bI ax.o;have zv:=aD ax.o;go_wp2;go_loopw [6,35] (fun v i wr=>∃(k L:Nat) (a2:oD) (c2:Nat),k<=p.aD2.length/\i=.int .i64 k/\v=.slice a2 L c2/\Hid (L=p.aDR.length+k)/\Hid (aM Mo 2 96 wr j.heap.size (fun b=>j.heap.size<=b) (.slice a2 L c2) (y++(p.aD2.take k).map (cY g n)))/\Hid (Below j.heap.size j wr)) (fun _ i _=>p.aD2.length - (intOf i).toNat)
   case atStart=>exact⟨0,p.aDR.length,H,I,qo,rfl,rfl,aA rfl,a8,c⟩
   case round=>
    clear a8 c ax;obtain⟨k,L,a2,c2,hk,rfl,rfl,ar,l,c⟩:=hrel;by_cases A:k<p.aD2.length
    .have a1:(k:Int)<(p.aD2.length:Int):=qo;obtain⟨b,off,rr,rfl,_,b4,bk,W⟩:=aH.at (bC lv) ((HP.o.2.2.2.2.1.inb (bC lv)).on (bC lv) (aC E.o.1 c.o)) A qe
     rcases lv with _|lv
     .exact bk.elim
     obtain⟨b7,cc,cb,b6,rfl,K⟩:=bk;obtain⟨aj,ak,rfl,_⟩:=K.2.2.1.slice;obtain⟨bo,bp,rfl,_⟩:=K.2.2.2.1.slice;obtain⟨bm,bn,rfl,_⟩:=K.2.2.2.2.1.slice;obtain⟨ah,ai,rfl,_⟩:=K.2.2.2.2.2.slice;obtain⟨x0,x1,x2,x3,x4,x5,x6⟩:=CW W;rw[Nat.add_zero] at x0;have HTF:Hid ((y++(p.aD2.take k).map (cY g n))++[cY g n p.aD2[k]]=y++(p.aD2.take (k+1)).map (cY g n)):=aA (by rw[List.take_succ_eq_append_getElem A,List.map_append,List.append_assoc];rfl);obtain⟨Q,S,bx⟩:=aZ (show (y++(p.aD2.take k).map (cY g n)).length=L by rw[ar.o,aL,bb.o,List.length_map,List.length_take];omega) (vC g n p.aD2[k]) (F.o.2.2.2.2 p.aD2[k] (List.getElem_mem A));clear W;generalize p.aD2[k]=r at *;have T:Hid (fO lv wr (fun b=>b5 b/\b<w.heap.size) r (.slice aj r.aDY.length ak) (.slice bo r.aDR.length bp) (.slice bm r.aD2.length bn) (.slice ah r.aD4.length ai)):=aA K;clear K;have z:=aA (aB wr (.cells (kR r aj ak bo bp bm bn ah ai) 60));obtain⟨f,C,M⟩:=aZ (bt.o lv _ _ r _ _ _ _ _ g _ bx.o (T.o.aDW (aJ z.o)) (HS.o.on cA (aC E.o.1 (aC c.o z.o)))) (l.o.on kU z.o) (aC c.o z.o);unfold nG at f;obtain⟨a,aa⟩:∃a,cY g n r=a:=⟨_,rfl⟩;rw[aa] at f HTF S;clear l c T aa;go_wp2_with fail;refine f.o.mono ?_;rintro e d ⟨bq,rfl,x,s⟩;obtain⟨m,o,rfl,_⟩:=x.slice;have B:=qB M s;obtain⟨al,au,N,ao,D⟩:=gJ (aC B.o (aB d (.cells #[.complex .f64 (Cm.qb a.1.1) (Cm.qb a.1.2),.slice m a.2.length o] 96))) (aK d (.cells #[.complex .f64 (Cm.qb a.1.1) (Cm.qb a.1.2),.slice m a.2.length o] 96) d.heap.size qs) (C.o.on kU (aC s (aB d (.cells #[.complex .f64 (Cm.qb a.1.1) (Cm.qb a.1.2),.slice m a.2.length o] 96)))) C.o.lt (x.inb aO)
     have aw:=aA (aH.more aO (aH.on aO D.o (aB d (.cells #[.complex .f64 (Cm.qb a.1.1) (Cm.qb a.1.2),.slice m a.2.length o] 96))) (ok':=fun b=>j.heap.size<=b/\b<(d.alloc (.cells #[.complex .f64 (Cm.qb a.1.1) (Cm.qb a.1.2),.slice m a.2.length o] 96)).heap.size/\some b≠(Value.slice a2 L c2).ownBlock) (fun b q=>⟨lT M.o.size q.1,by have:=q.2;rw[World.size_alloc];omega,fun e=>absurd (ao.o b e.symm).2 (Nat.not_lt.2 q.1)⟩));clear f C D x s;go_wp2_with (at_builtin;refine cC (base:=j.heap.size) aAv kU rfl (.tmp 39) (.tmp 43) rfl _ (y++(p.aD2.take k).map (cY g n)) rfl N.o d.heap.size 1 _ _ _ a rfl au.o ⟨_,rfl,S.o,aw.o⟩ (by rw[Q.o,ar.o];have:=R.o;have:=an.o;omega) qo (by have:=B.o.size;rw[World.size_alloc];omega) ?_;intro l' Y A' c3 w9 U X az;have HG9:=aA U;have HB9:=aA (N.o.below al.o X (lR _) (by have:=B.o.size;rw[World.size_alloc];omega));have HL9:=aA Y.o;clear U X az Y)
     have bs:Hid (l'.length=p.aDR.length+(k+1)):=aA (by rw[HL9.o,aL,Q.o,ar.o];rfl);go_roundw
     case rel=>exact⟨k+1,l'.length,A',c3,qo,by go_num,rfl,bs,aA (by have:=HG9.o;rw[HTF.o] at HL9;rw[<-HL9.o];exact this),HB9⟩
     case measure=>simp[intOf];omega
    .have a1:¬(k:Int)<(p.aD2.length:Int):=qo;obtain rfl:k=p.aD2.length:=qo;obtain⟨wp,rfl⟩:∃wp:World,wp=wr:=⟨_,rfl⟩;rw[List.take_of_length_le (lR _)] at l;obtain⟨G,V⟩:∃G,y++p.aD2.map (cY g n)=G:=⟨_,rfl⟩;have av:Hid (G.length=p.aDR.length+p.aD2.length):=aA (by rw[<-V,aL,bb.o,List.length_map]);have bd:Hid ((G.map (·.2.length)).sum<=900000):=aA (by rw[<-V,<-bc.o];exact Si hn g F.o);have ba:Hid (J=sA p.alg p.aD4 t G):=aA (by have h:=HJ2.o;rw[V] at h;exact h);rw[V] at l;have bf:=aA (l.o.sl (by rw[av.o];have:=R.o;have:=an.o;omega) (fun _=>True) (fun _ _ _=>trivial) (fun _ _ _=>trivial) kU);have HBW:=aA (aC E.o.1 c.o);have f:=aA (Ms p _ _ _ _ t bz.o _ G wp (fO.aDW (fO.inb HP.o) (aJ HBW.o)) bf.o bd.o (qA F.o.2.2.1) (by rw[av.o];have:=R.o;have:=an.o;omega));rw[<-ba.o] at f;have bg:=qK ab c.o;have bh:=qK ay c.o;unfold nG at f;clear V l HJ2 ba bc bd av bf c A hk v0 v1 v2 v3 v4 v5 v6 q0 q1 q2 q3 q4 q5 q6 zv;obtain⟨⟨v0,v1,v2,v3,v4,v5,v6⟩,q0,q1,q2,q3,q4,q5,q6⟩:=bI bg.o;have zv:=aD bg.o;go_wp2_with fail;refine f.o.mono ?_;rintro e d ⟨bq,rfl,x,s⟩;obtain⟨m,o,rfl,_⟩:=x.slice;obtain⟨bj,D,br,be⟩:=dH (aE bh.o s) x (aC HBW.o s) (aD bh.o);clear v0 v1 v2 v3 v4 v5 v6 q0 q1 q2 q3 q4 q5 q6 zv x s f;obtain⟨⟨u0,u1⟩,f0,f1⟩:=fL bj.o;have zu:=aD bj.o;go_wp2;refine bR (.agg #[.complex .f64 (Cm.qb J.1.1) (Cm.qb J.1.2),.slice m J.2.length o]) ?_;exact⟨_,rfl,aH.more aO (aH.aDW aO D.o (((aI (g:=w.heap.size+1) (i:=0) _).trans (aI (g:=w.heap.size+1) (i:=1) _)).mono fun k hk q=>by have h1:wp.heap.size<=k:=q;have h2:=be.o;show k≠w.heap.size+1;omega)) (fun b q=>by have h1:wp.heap.size<=b:=q;have h2:=be.o;show w.heap.size<=b;omega),oH br.o (Nat.le_succ _)⟩
theorem IX:∀n,n<=4->Sj n
 |0,_=>fun _ _ _ _ _ _ _ _ _ _ _ h=>h.elim
 |n+1,h=>XJ n qo (IX n qo)
end Go.Proofs.YthcgdgkpgdjahaaGreatDoor
