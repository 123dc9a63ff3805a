/- Lemmas. -/
import Derived.Test.YtheabjeppmdmiaaGreatDoorMbi
namespace Go.Proofs.YtheabjeppmdmiaaGreatDoor
open Go.RowKit
set_option linter.unusedVariables false
set_option linter.unusedSimpArgs false
set_option maxHeartbeats 16000000
open _root_.Go.Proofs.Tryz
set_option maxRecDepth 20000
theorem QDb{p:Prop}(h:p:=by
 exact⟨0,0,none,0,[],qo,rfl,aA rfl,OB0,aA aM.nil,HR0,HB0,aA (lR _)⟩):p:=h
theorem QCI{p:Prop}(h:p:=by
 go_wp2;refine bR (.agg #[.complex .f64 0 0,.slice none 0 0]) ?_;exact tL HJ2.o (oE HBW.o (Nat.le_succ _)) rfl rfl):p:=h
theorem QBW{p:Prop}(h:p:=by
 rw[e9] at HG9 ⊢;go_roundw
 case rel=>exact⟨k+1,A',c2,qo,by go_num,rfl,aA (by have:=HG9.o;rw[HL9.o,HTF.o] at this;exact this),HB9⟩
 case measure=>simp[intOf];omega):p:=h
theorem QAK{p:Prop}(h:p:=by
 have HG2:=aA (HG.o.on aO (aB wr (.cells #[.complex .f64 (Cm.qb x.1.1) (Cm.qb x.1.2),.slice xa x.2.length xc] 82)));have OBQ2:=qK OBQ (aB wr (.cells #[.complex .f64 (Cm.qb x.1.1) (Cm.qb x.1.2),.slice xa x.2.length xc] 82));have HBQ2:=qB HBQ (aB wr (.cells #[.complex .f64 (Cm.qb x.1.1) (Cm.qb x.1.2),.slice xa x.2.length xc] 82));have HSZ2:Hid (W2.heap.size<=(wr.alloc (.cells #[.complex .f64 (Cm.qb x.1.1) (Cm.qb x.1.2),.slice xa x.2.length xc] 82)).heap.size):=aA (by have:=HSZ.o;rw[World.size_alloc];omega);clear heq HPS HST HG HX3;go_wp2;go_roundw
 case rel=>exact⟨k+1,n,a2,c2,st,qo,by go_num,HNS,OBQ2,HG2,HST2,HBQ2,HSZ2⟩
 case measure=>simp[intOf];omega):p:=h
theorem QAd{p:Prop}(h:p:=by
 have OBWW:=aA OBQ.o;have HGW:=aA HG.o;have HBT:=aA HBQ.o;have HSW:=aA HSZ.o;obtain⟨WW,hWW⟩:∃WW:World,WW=wr:=⟨_,rfl⟩;subst hWW;have PBWW:=qK PB HBT.o;clear HST OBQ HG HBQ HSZ PBQ;obtain⟨⟨y0,y1⟩,g0,g1⟩:=fM OBWW.o;have zy:=aD OBWW.o;obtain⟨⟨v0,v1,v2,v3,v4,v5,v6⟩,_⟩:=bI PBWW.o;have zv:=aD PBWW.o;go_wp2;have RBWW:=qK RB HBT.o;have HDW:=aA (fun (w':World) (hb:Below WW.heap.size WW w')=>HDU.o w' okp _ (HOB.o.on aO (aC HBW.o (aC HBT.o hb))));go_region_law (first
  |(go_simp;go_at_call 218;refine(HDW.o _ (Below.refl _ _).drew).mono ?_;rintro e wd ⟨dv,rfl,hds,hbd⟩;obtain⟨da,dc,rfl,_⟩:=hds.slice;have HBD:=aA (aC (Below.refl WW.heap.size WW).drew hbd);have HDS:=aA (hds.inb aO);have OBD:=qK OBWW HBD.o;obtain⟨⟨z0,z1⟩,h0,h1⟩:=fM OBD.o;have zz:=aD OBD.o;clear hbd hds)
  |(refine WV (base:=W2.heap.size) WN aO rfl (.tmp 76) (.tmp 80) rfl _ st rfl (HGW.o.on aO HBD.o) _ (gR p.aDX m) rfl (aH.more aO HDS.o (fun b hb=>⟨by have h1:=hb.1;have h2:=aD OBWW.o;have h3:WW.heap.size<=b:=h1;omega,hb.2,fun e=>by have h1:WW.heap.size<=b:=hb.1;have h2:=(HGW.o.lt b e.symm).2;omega⟩)) (by have h1:=HRL.o;have h2:=HDL.o;rw[<-HRS.o] at h1;omega) qe (lT HSW.o HBD.o.size) ?_;intro l2 hl2 A2 c4 w10 hG hgr hat';have HG10:=aA hG;have HL10:=aA hl2.o;have HB10:=aA ((HGW.o.on aO HBD.o).below (aC HBT.o HBD.o) hgr (qA HZ2.o) (lT HSW.o HBD.o.size));have OB10:=aA ((hgr.block wo.heap.size zz (fun e=>by have h1:=(HGW.o.lt _ e.symm).1;have h2:=HZ2.o;omega)).trans OBD.o);obtain⟨⟨s0',s1'⟩,t0',t1'⟩:=fM OB10.o;have zs':=aD OB10.o;clear hG hgr hat' hl2))
 all_goals
  have RB10:=qK RB HB10.o;obtain⟨⟨u0,u1⟩,f0,f1⟩:=fM RB10.o;have zu:=aD RB10.o;have n1:¬w.heap.size+1=wo.heap.size:=qA HZ0.o;have n2:¬wo.heap.size=w.heap.size+1:=qA HZ0.o;go_wp2;refine bR (.agg #[.complex .f64 ma mb,.slice A2 l2.length c4]) ?_;refine⟨.slice A2 l2.length c4,by rw[HJ3.o,HMA2.o,HMB2.o],?_,oE (aC HBW.o (HB10.o.setCell (p:=⟨wo.heap.size,1,none⟩) (lR _) _)) (Nat.le_succ _)⟩;have hsl:=(eN (enc:=EU) (good:=yO) (ok':=fun b=>W2.heap.size<=b) HG10.o).sl (by rw[HL10.o,aL,HRS.o];have h1:=HRL.o;have h2:=HDL.o;omega) (fun b=>W2.heap.size<=b) (fun b hb _=>hb) (fun b hb _=>hb) aO;rw[HJ3.o];have e10:l2=RES++gR p.aDX m:=by rw[HL10.o,HRS.o]
  rw[<-e10];refine aH.more aO (aH.aDQ aO hsl (((aI (g:=wo.heap.size) (i:=1) _).mono fun k hk hb=>by have h1:W2.heap.size<=k:=hb;have h2:=HZ2.o;show k≠wo.heap.size;omega).trans ((((aI (g:=w.heap.size+1) (i:=0) _).trans (aI (g:=w.heap.size+1) (i:=1) _)).mono fun k hk hb=>by have h1:W2.heap.size<=k:=hb;have h2:=HZ2.o;have h3:=HZ0.o;show k≠w.heap.size+1;omega)))) (fun b hb=>by have h1:W2.heap.size<=b:=hb;have h2:=HZ2.o;have h3:=HZ0.o;show w.heap.size<=b;omega)):p:=h
section
variable {α:Type} {R:Rep α} {s:Nat} {P:Program} {w:World} {t e:TypeId} {bytes:Nat} {base:Nat} {ok:nP}
theorem WV(E:eF P t e s bytes)(F:Firm R s){ops:Array Oper}{o:Oper}{a:Act}{K:Act->World->Prop}{Q:Exit->Act->World->Prop}{G:Prop}(m:o.guard=none)(f x:Operand)
 (n:o.op=.call {callee:= .builtin .append,args:=#[f,x],argTypes:=#[t,t]})
 (v:Value)(l:List α)(p:a.eval f=v)(i:aM R s e w base ok v l)
 (g:Value)(y:List α)(q:a.eval x=g)(r:aH R w (fun b=>ok b/\b<w.heap.size/\some b≠v.ownBlock) g y)
 (h63:l.length+y.length<=1000000)(k:bytes<=10000)(j:base<=w.heap.size)
 (h:∀l',Hid (l'=l++y)->∀c d w',aM R s e w' base ok (.slice c l'.length d) l'->w.grownBy w' v.ownBlock->((Value.slice c l'.length d).ownBlock=v.ownBlock\/(Value.slice c l'.length d).ownBlock=some w.heap.size)->K (a.put o.dst (.slice c l'.length d)) w'):if Region.wanted o (yielded ops a.tmps)=true then Oper.wp P o a w K Q else G:=by
 rw[iP (by simp[Region.wanted,m])];exact Lq E F f x n v l p i g y q r h63 k j h
end
theorem IN{first:Bool}{m:Mk}{l:List Rs}{k:Nat}(a:k<l.length):gJ first m (l.drop k)=if l[k].1≠m then gJ first m (l.drop (k+1)) else if first=true then l[k].2 else l[k].2++gJ first m (l.drop (k+1)):=by
 rw[List.drop_eq_getElem_cons a];rfl
theorem MD(first:Bool)(m:Mk):∀l:List Rs,(gJ first m l).length<=(l.map (·.2.length)).sum
 | []=>Nat.zero_le _
 |x::l=>by
  have:=MD first m l
  unfold gJ;rw[List.map_cons,List.sum_cons];split
  .omega
  split
  .omega
  .rw[aL];omega
theorem Rn(l:List Rs)(k:Nat)(a:k<l.length):(l.take k).map (·.1)++[l[k].1]=(l.take (k+1)).map (·.1):=by
 rw[List.take_succ_eq_append_getElem a,List.map_append];rfl
theorem Lt{ok okp:nP}{lv:Nat}(p:Po)(vt vr vk vo:Value)(t:Nat)(ht:t<=2)(vp:Value)(parts:List Rs)(w:World)(hp:fO lv w okp p vt vr vk vo)(h:aH Lp w ok vp parts)(hn:(parts.map (·.2.length)).sum<=900000)(ho:p.aDX.length<=50000)(ba:parts.length<=100000):
 Calls prog 173 #[.agg #[.string p.id,.bool p.set,.int .i64 p.alg,vt,vr,vk,vo],.int .i64 t,vp] w (nD (rU p.alg p.aDX t parts) w):=by
 obtain⟨ta,tc,rfl,_⟩:=hp.2.2.1.slice;obtain⟨ra,rc,rfl,_⟩:=hp.2.2.2.1.slice;obtain⟨ka,kc,rfl,_⟩:=hp.2.2.2.2.1.slice;obtain⟨oa,oc,rfl,_⟩:=hp.2.2.2.2.2.slice;obtain⟨pa,pc,rfl,bx⟩:=h.slice;have HS:=aA h;have HOB:=aA hp.2.2.2.2.2;obtain⟨S,aq⟩:∃S:Obj,S=.cells (kO p ta tc ra rc ka kc oa oc) 50:=⟨_,rfl⟩;obtain⟨T,ar⟩:∃T:Obj,T=.cells #[.complex .f64 0 0,.slice none 0 0] 82:=⟨_,rfl⟩;obtain⟨W0,ah⟩:=xE ((w.alloc S).alloc T);have av:=aA (ah▸LY w S T:Kp w w.heap.size (w.heap.size+1) S T W0);rw[aq,ar] at ah;obtain⟨bo,bk,bl⟩:=aY ah aq ar;have N:∀x∈parts.map (·.1),Cm.fC x=true:=fun x Q=>by
  obtain⟨r,hr,rfl⟩:=List.mem_map.1 Q;obtain⟨k,hk,rfl⟩:=List.getElem_of_mem hr;obtain⟨_,_,_,_,_,_,⟨_,_,hh⟩,_⟩:=aH.at kR h hk qe;exact hh.1
 have bh:=aA N;obtain⟨m,hm⟩:∃m,CF p.alg (parts.map (·.1))=m:=⟨_,rfl⟩;have az:=aA (hm▸QT p.alg (parts.map (·.1)) N:Cm.fC m=true);have au:=aA (fun (a:oD) (c:Nat) (w':World) (hs:Sl w' w'.heap.size a (Cm.vm (parts.map (·.1))))=>Cm.Ax p.alg a c parts.length (parts.map (·.1)) (by rw[List.length_map]) w' _ (by unfold maxLen;omega) (fun x Q=>zG (N x Q)) hs);have ay:=aA ((Xg p.alg (parts.map (·.1)) N).trans hm);have z:Hid (rU p.alg p.aDX t parts=if t=0 then ((0,0),[]) else if t=1 then (tY m,[]) else if m≠(4,0)/\m≠(0,4) then (m,[]) else (m,gJ (decide (p.alg=3)) m parts++gR p.aDX m)):=aA (by unfold rU;simp only[hm]);obtain⟨J,hJ⟩:∃J,rU p.alg p.aDX t parts=J:=⟨_,rfl⟩;rw[hJ] at z ⊢;obtain⟨HN,bm,bn⟩:=aY hn ho ba;have bz:=uL;obtain⟨alg,br⟩:∃alg,p.alg=alg:=⟨_,rfl⟩;clear h hp ah aq ar N hm hJ hn ho ba br alg;go_enter func173,ntmps173;go_wp2;rw[<-bo.o];go_loopw [7,17] (fun v i wr=>∃(k:Nat) (a':oD) (c':Nat),k<=parts.length/\i=.int .i64 k/\v=.slice a' k c'/\Hid (aM MkR 1 32 wr W0.heap.size (fun _=>True) (.slice a' k c') ((parts.take k).map (·.1)))/\Hid (Below W0.heap.size W0 wr)) (fun _ i _=>parts.length - (intOf i).toNat)
 case atStart=>exact⟨0,none,0,qo,rfl,rfl,aA aM.nil,aA (Below.refl _ _)⟩
 case round=>
  obtain⟨k,a',c',hk,rfl,rfl,HG,G⟩:=hrel;by_cases y:k<parts.length
  .have M:(k:Int)<(parts.length:Int):=qo;obtain⟨b,off,r,rfl,_,a7,⟨vx,rfl,d⟩,j⟩:=aH.at kR (HS.o.on kR (aC av.o.1 G.o)) y qe;obtain⟨xa,xc,rfl,_⟩:=d.2.slice;have B:=j 0 _ rfl;have x1:=j 1 _ rfl;rw[Nat.add_zero] at B;obtain⟨HTF,bf,ax,HSZ⟩:=dI (Rn parts k y) d.1 (show ((parts.take k).map (·.1)).length=k by rw[List.length_map,List.length_take];omega) G.o.size;clear j d;generalize parts[k]=x at *;have bd:=qB G (aB wr (.cells #[.complex .f64 (Cm.qb x.1.1) (Cm.qb x.1.2),.slice xa x.2.length xc] 82));obtain⟨be,bj,HG2⟩:=aY (aC bd.o (aB _ (.cells #[.complex .f64 (Cm.qb x.1.1) (Cm.qb x.1.2)] 32))) (aK (wr.alloc (.cells #[.complex .f64 (Cm.qb x.1.1) (Cm.qb x.1.2),.slice xa x.2.length xc] 82)) (.cells #[.complex .f64 (Cm.qb x.1.1) (Cm.qb x.1.2)] 32) (wr.heap.size+1) qs) (HG.o.on Lo (aC (aB wr (.cells #[.complex .f64 (Cm.qb x.1.1) (Cm.qb x.1.2),.slice xa x.2.length xc] 82)) (aB _ (.cells #[.complex .f64 (Cm.qb x.1.1) (Cm.qb x.1.2)] 32))));clear HG;go_wp2_with (at_builtin;refine cB (base:=W0.heap.size) aDk Lo rfl (.tmp 21) (.tmp 24) rfl _ ((parts.take k).map (·.1)) rfl HG2.o (wr.heap.size+1) 1 _ _ _ x.1 rfl bj.o ⟨rfl,bf.o⟩ (by rw[ax.o];have:=bn.o;omega) qo (by have:=HSZ.o;simp only[World.size_alloc];omega) ?_;intro l' s A' c2 A hG hgr hat';have HG9:=aA hG;have HB9:=aA (HG2.o.below be.o hgr (lR _) (by have:=HSZ.o;simp only[World.size_alloc];omega));have HL9:=aA s.o;clear hG hgr hat' s)
   have e9:l'.length=k+1:=by rw[HL9.o,aL,ax.o];rfl
   exact QBW
  .have M:¬(k:Int)<(parts.length:Int):=qo;obtain rfl:k=parts.length:=qo;obtain⟨wo,rfl⟩:∃wo:World,wo=wr:=⟨_,rfl⟩;have hG:=HG.o;rw[List.take_of_length_le (lR _)] at hG;obtain⟨cs,h1,h2⟩:=hG;have bs:=WO h2;subst bs;obtain⟨aw,cw,H,_,h3,_⟩:=lV h1;injection H with H e2 I;subst H I;have U:=aA (au.o a' c' wo h3);have ai:=aA (av.o.on G.o);have PB:=aA (by have h:=ai.o.2.1;rw[bk.o] at h;exact h:wo.heap[w.heap.size]? =some (.cells (kO p ta tc ra rc ka kc oa oc) 50 (0,0)));have RB:=aA (by have h:=ai.o.2.2;rw[bl.o] at h;exact h:wo.heap[w.heap.size+1]? =some (.cells #[.complex .f64 0 0,.slice none 0 0] 82 (0,0)));clear h1 h2 h3 e2 HG G;obtain⟨⟨v0,v1,v2,v3,v4,v5,v6⟩,_⟩:=bI PB.o;obtain⟨⟨u0,u1⟩,f0,f1⟩:=fM RB.o;have zv:=aD PB.o;have zu:=aD RB.o;unfold Cm.mkE at U;rw[ay.o] at U;go_wp2_with fail;refine U.o.mono ?_;rintro e wx ⟨rfl,rfl⟩;clear U;clear v0 v1 v2 v3 v4 v5 v6 zv;have HBW:=aA ai.o.1;have bu:t=0\/t=1\/t=2:=qo
   rcases bu with bb|bc|bt
   .have a6:((t:Int)==0)=true:=bQ.2 qo;have HJ2:=aA (by have h:=z.o;rwa [iP bb] at h:J=((0,0),[]));clear z bb ht;exact QCI
   .have a6:((t:Int)==0)=false:=bN.2 qo;have bq:((t:Int)==1)=true:=bQ.2 qo;have HJ2:=aA (by have h:=z.o;rwa [iN qo,iP bc] at h:J=(tY m,[]));have bg:Hid (∀w,Calls prog 217 #[.complex .f64 (Cm.qb m.1) (Cm.qb m.2)] w fun e w'=>e=.returned (.complex .f64 (Cm.qb (tY m).1) (Cm.qb (tY m).2))/\w=w'):=aA (fun w=>Cm.aBJ m (zG az.o) w);generalize tY m=mi at *;clear z bc ht;go_wp2_with fail;refine(bg.o _).mono ?_;rintro e wx ⟨rfl,rfl⟩;go_wp2;refine bR (.agg #[.complex .f64 (Cm.qb mi.1) (Cm.qb mi.2),.slice none 0 0]) ?_;exact tL (a:=mi.1) (b:=mi.2) HJ2.o (oE HBW.o (Nat.le_succ _)) rfl rfl
   .have a6:((t:Int)==0)=false:=bN.2 qo;have bq:((t:Int)==1)=false:=bN.2 qo;have HJ2:=aA (by have h:=z.o;rwa [iN qo,iN qo] at h:J=if m≠(4,0)/\m≠(0,4) then (m,[]) else (m,gJ (decide (p.alg=3)) m parts++gR p.aDX m));obtain⟨PP,K⟩:∃P,decide (m=(4,0))=P:=⟨_,rfl⟩;obtain⟨DD,hD⟩:∃D,decide (m=(0,4))=D:=⟨_,rfl⟩;have F:=zG az.o;have W:Hid (((FloatKind.f64.format.order (Cm.qb m.1) 4607182418800017408==some .eq)&&(FloatKind.f64.format.order (Cm.qb m.2) 0==some .eq))=PP):=aA ((Cm.iZ m.1 m.2 4 0 F qe qe).trans ((sI m (4,0)).trans K));have X:Hid (((FloatKind.f64.format.order (Cm.qb m.1) 0==some .eq)&&(FloatKind.f64.format.order (Cm.qb m.2) 4607182418800017408==some .eq))=DD):=aA ((Cm.iZ m.1 m.2 0 4 F qe qe).trans ((sI m (0,4)).trans hD));have Y:Hid (∀x:Mk,Cm.fC x=true->((FloatKind.f64.format.order (Cm.qb x.1) (Cm.qb m.1)==some .eq)&&(FloatKind.f64.format.order (Cm.qb x.2) (Cm.qb m.2)==some .eq))=decide (x=m)):=aA (fun x Q=>(Cm.iZ x.1 x.2 m.1 m.2 (zG Q) F.1 F.2).trans (sI x m));have HDU:Hid (∀w' ok v,aH kB w' ok v p.aDX->Calls prog 218 #[v,.complex .f64 (Cm.qb m.1) (Cm.qb m.2)] w' (wT (gR p.aDX m) w')):=aA (fun w' ok v h=>yG v p.aDX m F w' h);have HDL:Hid ((gR p.aDX m).length<=50000):=aA (lT (List.length_filter_le _ _) bm.o);obtain⟨ma,an⟩:∃ma,Cm.qb m.1=ma:=⟨_,rfl⟩;obtain⟨mb,ao⟩:∃mb,Cm.qb m.2=mb:=⟨_,rfl⟩;rw[an,ao] at W X Y HDU ⊢;have HMA2:=aA an;have HMB2:=aA ao;unfold wT at HDU;have aj:Hid ((PP=false/\DD=false/\J=(m,[]))\/((PP=true\/(PP=false/\DD=true))/\J=(m,gJ (decide (p.alg=3)) m parts++gR p.aDX m))):=aA (by
     have hj:=HJ2.o;by_cases h4:m=(4,0)
     .rw[iN (fun h=>h.1 h4)] at hj;exact .inr ⟨.inl (by rw[<-K];exact dX h4),hj⟩
     .by_cases h5:m=(0,4)
      .rw[iN (fun h=>h.2 h5)] at hj;exact .inr ⟨.inr ⟨by rw[<-K];exact dF h4,by rw[<-hD];exact dX h5⟩,hj⟩
      .rw[iP ⟨h4,h5⟩] at hj;exact .inl ⟨by rw[<-K];exact dF h4,by rw[<-hD];exact dF h5,hj⟩)
    clear z HJ2 K hD an ao F bt ht ay au bh
    rcases aj.o with ⟨rfl,rfl,hj⟩|⟨a8,hj⟩
    .have HJ3:=aA hj;have H:=W.o;have e2:=X.o;clear hj Y aj;go_wp2;refine bR (.agg #[.complex .f64 ma mb,.slice none 0 0]) ?_;exact tL (a:=m.1) (b:=m.2) HJ3.o (oE HBW.o (Nat.le_succ _)) HMA2.o HMB2.o
    have HJ3:=aA hj;have a1:=aA a8;clear hj a8 aj u0 u1 f0 f1 zu;obtain⟨RES,O⟩:=xE (gJ (decide (p.alg=3)) m parts);rw[<-O] at HJ3;obtain⟨first,al⟩:∃f,decide (p.alg=3)=f:=⟨_,rfl⟩;rw[al] at O;have HR0:=aA (by rw[List.nil_append,List.drop_zero];exact O.symm:([]:List Ob)++gJ first m (parts.drop 0)=RES);have HRL:Hid (RES.length<=900000):=aA (by rw[O];exact lT (MD _ _ _) HN.o);have bw:(p.alg==3)=first:=al
    obtain⟨W2,L⟩:=xE (wo.alloc (.cells #[.complex .f64 ma mb,.slice none 0 0] 82));obtain⟨bp,OB0,HZ2,HB0,HZ0⟩:=gG L (L▸aK wo (.cells #[.complex .f64 ma mb,.slice none 0 0] 82) _ rfl:W2.heap[wo.heap.size]? =some (.cells #[.complex .f64 ma mb,.slice none 0 0] 82 (0,0))) (by rw[L,World.size_alloc]:W2.heap.size=wo.heap.size+1) (L▸aB wo _:Below wo.heap.size wo W2) (aD RB.o);clear O al L;go_upto_region 12 with (fail)
    go_cut [44] from 45 to 50 (fun v w'=>v=.bool false/\wo=w')
    case first=>
     rcases a1.o with rfl|⟨rfl,rfl⟩
     all_goals
      have H:=W.o;have e2:=X.o;go_wp2;go_meet;exact⟨rfl,rfl⟩
    case rest=>
     obtain⟨hv,hw⟩:=hcut;subst hv;subst hw;clear W X a1;go_wp2;rw[<-bp.o]
     rcases first with _|_
     .go_loopw [57] (fun i wr=>∃(k n:Nat) (a2:oD) (c2:Nat) (st:List Ob),k<=parts.length/\i=.int .i64 k/\Hid (n=st.length)/\Hid (wr.heap[wo.heap.size]? =some (.cells #[.complex .f64 ma mb,.slice a2 n c2] 82 (0,0)))/\Hid (aM kB 3 167 wr W2.heap.size (fun b=>b≠wo.heap.size) (.slice a2 n c2) st)/\Hid (st++gJ false m (parts.drop k)=RES)/\Hid (Below wo.heap.size wo wr)/\Hid (W2.heap.size<=wr.heap.size)) (fun i _=>parts.length - (intOf i).toNat)
      case atStart=>exact QDb
      case round=>
       clear HR0 OB0 HB0;obtain⟨k,n,a2,c2,st,hk,rfl,HNS,OBQ,HG,HST,HBQ,HSZ⟩:=hrel;have PBQ:=qK PB HBQ.o;by_cases y:k<parts.length
       .have M:(k:Int)<(parts.length:Int):=qo;obtain⟨b,off,r,rfl,_,a7,⟨vx,rfl,d⟩,j⟩:=aH.at kR ((HS.o.inb kR).aDQ kR (aJ (aC HBW.o HBQ.o))) y qe;obtain⟨xa,xc,rfl,_⟩:=d.2.slice;have B:=j 0 _ rfl;have x1:=j 1 _ rfl;rw[Nat.add_zero] at B;obtain⟨HPS,HX3,ak⟩:=aY (IN (first:=false) (m:=m) y) (Y.o parts[k].1 d.1) d.2;clear j d;generalize parts[k]=x at *;obtain⟨eq,heq⟩:∃q,decide (x.1=m)=q:=⟨_,rfl⟩;rw[heq] at HX3;have I:=HX3.o;obtain⟨⟨y0,y1⟩,g0,g1⟩:=fM OBQ.o;have zy:=aD OBQ.o;obtain⟨⟨v0,v1,v2,v3,v4,v5,v6⟩,_⟩:=bI PBQ.o;have zv:=aD PBQ.o
        cases eq
        .have HST2:Hid (st++gJ false m (parts.drop (k+1))=RES):=aA (by have h:=HST.o;rwa [HPS.o,iP (of_decide_eq_false heq)] at h);exact QAK
        .have R:x.1=m:=of_decide_eq_true heq;have HST2:=aA (by have h:=HST.o;rwa [HPS.o,iN (fun h=>h R)] at h:st++(if false=true then x.2 else x.2++gJ false m (parts.drop (k+1)))=RES);have aa:Hid (st.length+x.2.length<=900000):=aA (by
          have h1:=HRL.o;rw[<-HST2.o,aL] at h1;split at h1
          .omega
          .rw[aL] at h1;omega)
         have l:=aA (aB wr (.cells #[.complex .f64 (Cm.qb x.1.1) (Cm.qb x.1.2),.slice xa x.2.length xc] 82));obtain⟨HG2,OBQ2,HBQ2⟩:=aY (HG.o.on aO l.o) (aE OBQ.o l.o) (aC HBQ.o l.o);have C:=aA (HG2.o.lt);have ad:=aA (aH.more aO (aH.on aO ak.o l.o) (ok':=fun b=>b≠wo.heap.size/\b<(wr.alloc (.cells #[.complex .f64 (Cm.qb x.1.1) (Cm.qb x.1.2),.slice xa x.2.length xc] 82)).heap.size/\some b≠(Value.slice a2 n c2).ownBlock) (fun b hb=>⟨qD hb.2 HZ0.o,by have h1:=hb.2;have h2:=HZ0.o;have h3:=HBQ2.o.size;omega,fun e=>by
          have h1:=(C.o b e.symm).1;have h2:=hb.2;have h3:=HZ2.o;have h4:=HZ0.o;omega⟩))
         have ag:=aA (aD OBQ2.o);have HSZ2:Hid (W2.heap.size<=(wr.alloc (.cells #[.complex .f64 (Cm.qb x.1.1) (Cm.qb x.1.2),.slice xa x.2.length xc] 82)).heap.size):=aA (by have:=HSZ.o;rw[World.size_alloc];omega);clear heq HPS HST HG HX3 R;go_wp2_with (at_builtin;refine BH (base:=W2.heap.size) WN aO rfl (.tmp 66) (.tmp 68) rfl _ st rfl HG2.o _ x.2 rfl ad.o (qA aa.o) qe HSZ2.o ?_;intro l' s A' c3 A hG hgr hat';have HG9:=aA hG;have HL9:=aA s.o;have o:=aA ((hgr.block _ ag.o (fun e=>by have h1:=(C.o _ e.symm).1;have h2:=HZ2.o;omega)).trans OBQ2.o);have HB9:=aA (HG2.o.below HBQ2.o hgr (qA HZ2.o) HSZ2.o);have ab:=aA (lT HSZ2.o hgr.size);obtain⟨⟨s0,s1⟩,t0,t1⟩:=fM o.o;have zs:=aD o.o;clear y0 y1 g0 g1 zy v0 v1 v2 v3 v4 v5 v6 zv B x1 I hG hgr hat' s;have E:=qK PB HB9.o;obtain⟨⟨v0,v1,v2,v3,v4,v5,v6⟩,_⟩:=bI E.o;have zv:=aD E.o)
         have af:Hid ((A.setCell ⟨wo.heap.size,1,none⟩ (.slice A' l'.length c3)).heap[wo.heap.size]? =some (.cells #[.complex .f64 ma mb,.slice A' l'.length c3] 82 (0,0))):=aA (aG o.o 1 (.slice A' l'.length c3));have Z:=aA (HG9.o.aDQ aO (ok':=fun b=>b≠wo.heap.size) (aI (g:=wo.heap.size) (i:=1) (.slice A' l'.length c3)) (fun b hb _=>hb) (fun b hb _=>qA HZ2.o));have ae:Hid (W2.heap.size<=(A.setCell ⟨wo.heap.size,1,none⟩ (.slice A' l'.length c3)).heap.size):=aA (lT ab.o (aI (g:=wo.heap.size) (i:=1) (.slice A' l'.length c3)).size);have V:=aA (HB9.o.setCell (p:=⟨wo.heap.size,1,none⟩) (lR _) (.slice A' l'.length c3));go_wp2;go_roundw
         case rel=>exact⟨k+1,l'.length,A',c3,l',qo,by go_num,aA rfl,af,Z,aA (by have h:=HST2.o;rw[iN qe,<-List.append_assoc,<-HL9.o] at h;exact h),V,ae⟩
         case measure=>simp[intOf];omega
       .have M:¬(k:Int)<(parts.length:Int):=qo;obtain rfl:k=parts.length:=qo;have HRS:Hid (st=RES):=aA (by have h:=HST.o;rw[List.drop_length] at h;have e:gJ false m []=[]:=rfl;rwa [e,List.append_nil] at h);exact QAd
     .go_loopw [57] (fun i wr=>∃(k n:Nat) (a2:oD) (c2:Nat) (st:List Ob),k<=parts.length/\i=.int .i64 k/\Hid (n=st.length)/\Hid (wr.heap[wo.heap.size]? =some (.cells #[.complex .f64 ma mb,.slice a2 n c2] 82 (0,0)))/\Hid (aM kB 3 167 wr W2.heap.size (fun b=>b≠wo.heap.size) (.slice a2 n c2) st)/\Hid (st++gJ true m (parts.drop k)=RES)/\Hid (Below wo.heap.size wo wr)/\Hid (W2.heap.size<=wr.heap.size)) (fun i _=>parts.length - (intOf i).toNat)
      case atStart=>exact QDb
      case round=>
       clear HR0 OB0 HB0;obtain⟨k,n,a2,c2,st,hk,rfl,HNS,OBQ,HG,HST,HBQ,HSZ⟩:=hrel;have PBQ:=qK PB HBQ.o;by_cases y:k<parts.length
       .have M:(k:Int)<(parts.length:Int):=qo;obtain⟨b,off,r,rfl,_,a7,⟨vx,rfl,d⟩,j⟩:=aH.at kR ((HS.o.inb kR).aDQ kR (aJ (aC HBW.o HBQ.o))) y qe;obtain⟨xa,xc,rfl,_⟩:=d.2.slice;have B:=j 0 _ rfl;have x1:=j 1 _ rfl;rw[Nat.add_zero] at B;obtain⟨HPS,HX3,ak⟩:=aY (IN (first:=true) (m:=m) y) (Y.o parts[k].1 d.1) d.2;clear j d;generalize parts[k]=x at *;obtain⟨eq,heq⟩:∃q,decide (x.1=m)=q:=⟨_,rfl⟩;rw[heq] at HX3;have I:=HX3.o;obtain⟨⟨y0,y1⟩,g0,g1⟩:=fM OBQ.o;have zy:=aD OBQ.o;obtain⟨⟨v0,v1,v2,v3,v4,v5,v6⟩,_⟩:=bI PBQ.o;have zv:=aD PBQ.o
        cases eq
        .have HST2:Hid (st++gJ true m (parts.drop (k+1))=RES):=aA (by have h:=HST.o;rwa [HPS.o,iP (of_decide_eq_false heq)] at h);exact QAK
        .have R:x.1=m:=of_decide_eq_true heq;have HST2:=aA (by have h:=HST.o;rwa [HPS.o,iN (fun h=>h R)] at h:st++(if true=true then x.2 else x.2++gJ true m (parts.drop (k+1)))=RES);have aa:Hid (st.length+x.2.length<=900000):=aA (by
          have h1:=HRL.o;rw[<-HST2.o,aL] at h1;split at h1
          .omega
          .rw[aL] at h1;omega)
         have l:=aA (aB wr (.cells #[.complex .f64 (Cm.qb x.1.1) (Cm.qb x.1.2),.slice xa x.2.length xc] 82));obtain⟨HG2,OBQ2,HBQ2⟩:=aY (HG.o.on aO l.o) (aE OBQ.o l.o) (aC HBQ.o l.o);have C:=aA (HG2.o.lt);have ad:=aA (aH.more aO (aH.on aO ak.o l.o) (ok':=fun b=>b≠wo.heap.size/\b<(wr.alloc (.cells #[.complex .f64 (Cm.qb x.1.1) (Cm.qb x.1.2),.slice xa x.2.length xc] 82)).heap.size/\some b≠(Value.slice a2 n c2).ownBlock) (fun b hb=>⟨qD hb.2 HZ0.o,by have h1:=hb.2;have h2:=HZ0.o;have h3:=HBQ2.o.size;omega,fun e=>by
          have h1:=(C.o b e.symm).1;have h2:=hb.2;have h3:=HZ2.o;have h4:=HZ0.o;omega⟩))
         have ag:=aA (aD OBQ2.o);have HSZ2:Hid (W2.heap.size<=(wr.alloc (.cells #[.complex .f64 (Cm.qb x.1.1) (Cm.qb x.1.2),.slice xa x.2.length xc] 82)).heap.size):=aA (by have:=HSZ.o;rw[World.size_alloc];omega);clear heq HPS HST HG HX3 R;go_wp2_with (at_builtin;refine BH (base:=W2.heap.size) WN aO rfl (.tmp 66) (.tmp 68) rfl _ st rfl HG2.o _ x.2 rfl ad.o (qA aa.o) qe HSZ2.o ?_;intro l' s A' c3 A hG hgr hat';have HG9:=aA hG;have HL9:=aA s.o;have o:=aA ((hgr.block _ ag.o (fun e=>by have h1:=(C.o _ e.symm).1;have h2:=HZ2.o;omega)).trans OBQ2.o);have HB9:=aA (HG2.o.below HBQ2.o hgr (qA HZ2.o) HSZ2.o);have ab:=aA (lT HSZ2.o hgr.size);obtain⟨⟨s0,s1⟩,t0,t1⟩:=fM o.o;have zs:=aD o.o;clear y0 y1 g0 g1 zy v0 v1 v2 v3 v4 v5 v6 zv B x1 I hG hgr hat' s;have E:=qK PB HB9.o;obtain⟨⟨v0,v1,v2,v3,v4,v5,v6⟩,_⟩:=bI E.o;have zv:=aD E.o)
         have af:Hid ((A.setCell ⟨wo.heap.size,1,none⟩ (.slice A' l'.length c3)).heap[wo.heap.size]? =some (.cells #[.complex .f64 ma mb,.slice A' l'.length c3] 82 (0,0))):=aA (aG o.o 1 (.slice A' l'.length c3));have Z:=aA (HG9.o.aDQ aO (ok':=fun b=>b≠wo.heap.size) (aI (g:=wo.heap.size) (i:=1) (.slice A' l'.length c3)) (fun b hb _=>hb) (fun b hb _=>qA HZ2.o));have ae:Hid (W2.heap.size<=(A.setCell ⟨wo.heap.size,1,none⟩ (.slice A' l'.length c3)).heap.size):=aA (lT ab.o (aI (g:=wo.heap.size) (i:=1) (.slice A' l'.length c3)).size);have V:=aA (HB9.o.setCell (p:=⟨wo.heap.size,1,none⟩) (lR _) (.slice A' l'.length c3));have HRS:Hid (l'=RES):=aA (by have h:=HST2.o;rw[iP trivial,<-HL9.o] at h;exact h);have n3:¬w.heap.size=wo.heap.size:=qA HZ0.o;have n4:¬wo.heap.size=w.heap.size:=qA HZ0.o;go_wp2;obtain⟨WW,hWW⟩:∃WW:World,WW=A.setCell ⟨wo.heap.size,1,none⟩ (.slice A' l'.length c3):=⟨_,rfl⟩;rw[<-hWW] at af Z ae V ⊢;clear hWW;clear s0 s1 t0 t1 zs v0 v1 v2 v3 v4 v5 v6 zv HST2 HG2 OBQ2 HBQ2 HSZ2 o HG9 HB9 ab E C ad ag l PBQ aa;obtain⟨OBWW,HGW,HBT,HSW⟩:=dI af.o Z.o V.o ae.o;have PBWW:=qK PB HBT.o;obtain⟨⟨y0,y1⟩,g0,g1⟩:=fM OBWW.o;have zy:=aD OBWW.o;obtain⟨⟨v0,v1,v2,v3,v4,v5,v6⟩,_⟩:=bI PBWW.o;have zv:=aD PBWW.o;have RBWW:=qK RB HBT.o;have HDW:=aA (fun (w':World) (hb:Below WW.heap.size WW w')=>HDU.o w' okp _ (HOB.o.on aO (aC HBW.o (aC HBT.o hb))));go_region_law (first
          |(go_simp;go_at_call 218;refine(HDW.o _ (Below.refl _ _).drew).mono ?_;rintro e wd ⟨dv,rfl,hds,hbd⟩;obtain⟨da,dc,rfl,_⟩:=hds.slice;have HBD:=aA (aC (Below.refl WW.heap.size WW).drew hbd);have HDS:=aA (hds.inb aO);have OBD:=qK OBWW HBD.o;obtain⟨⟨z0,z1⟩,h0,h1⟩:=fM OBD.o;have zz:=aD OBD.o;clear hbd hds)
          |(refine WV (base:=W2.heap.size) WN aO rfl (.tmp 76) (.tmp 80) rfl _ l' rfl (HGW.o.on aO HBD.o) _ (gR p.aDX m) rfl (aH.more aO HDS.o (fun b hb=>⟨by have h1:=hb.1;have h2:=aD OBWW.o;have h3:WW.heap.size<=b:=h1;omega,hb.2,fun e=>by have h1:WW.heap.size<=b:=hb.1;have h2:=(HGW.o.lt b e.symm).2;omega⟩)) (by have h1:=HRL.o;have h2:=HDL.o;rw[<-HRS.o] at h1;omega) qe (lT HSW.o HBD.o.size) ?_;intro l2 hl2 A2 c4 w10 hG hgr hat';have HG10:=aA hG;have HL10:=aA hl2.o;have HB10:=aA ((HGW.o.on aO HBD.o).below (aC HBT.o HBD.o) hgr (qA HZ2.o) (lT HSW.o HBD.o.size));have OB10:=aA ((hgr.block wo.heap.size zz (fun e=>by have h1:=(HGW.o.lt _ e.symm).1;have h2:=HZ2.o;omega)).trans OBD.o);obtain⟨⟨s0',s1'⟩,t0',t1'⟩:=fM OB10.o;have zs':=aD OB10.o;clear hG hgr hat' hl2))
         all_goals
          have RB10:=qK RB HB10.o;obtain⟨⟨u0,u1⟩,f0,f1⟩:=fM RB10.o;have zu:=aD RB10.o;have n1:¬w.heap.size+1=wo.heap.size:=qA HZ0.o;have n2:¬wo.heap.size=w.heap.size+1:=qA HZ0.o;go_wp2;refine bR (.agg #[.complex .f64 ma mb,.slice A2 l2.length c4]) ?_;refine⟨.slice A2 l2.length c4,by rw[HJ3.o,HMA2.o,HMB2.o],?_,oE (aC HBW.o (HB10.o.setCell (p:=⟨wo.heap.size,1,none⟩) (lR _) _)) (Nat.le_succ _)⟩;have hsl:=(eN (enc:=EU) (good:=yO) (ok':=fun b=>W2.heap.size<=b) HG10.o).sl (by rw[HL10.o,aL,HRS.o];have h1:=HRL.o;have h2:=HDL.o;omega) (fun b=>W2.heap.size<=b) (fun b hb _=>hb) (fun b hb _=>hb) aO;rw[HJ3.o];have e10:l2=RES++gR p.aDX m:=by rw[HL10.o,HRS.o]
          rw[<-e10];refine aH.more aO (aH.aDQ aO hsl (((aI (g:=wo.heap.size) (i:=1) _).mono fun k hk hb=>by have h1:W2.heap.size<=k:=hb;have h2:=HZ2.o;show k≠wo.heap.size;omega).trans ((((aI (g:=w.heap.size+1) (i:=0) _).trans (aI (g:=w.heap.size+1) (i:=1) _)).mono fun k hk hb=>by have h1:W2.heap.size<=k:=hb;have h2:=HZ2.o;have h3:=HZ0.o;show k≠w.heap.size+1;omega)))) (fun b hb=>by have h1:W2.heap.size<=b:=hb;have h2:=HZ2.o;have h3:=HZ0.o;show w.heap.size<=b;omega)
       .have M:¬(k:Int)<(parts.length:Int):=qo;obtain rfl:k=parts.length:=qo;have HRS:Hid (st=RES):=aA (by have h:=HST.o;rw[List.drop_length] at h;have e:gJ true m []=[]:=rfl;rwa [e,List.append_nil] at h);exact QAd
def JU:Nat->Po->Prop
 |0,_=>False
 |n+1,p=>p.aDK.length<=16/\p.aDV.length<=16/\p.aDX.length<=8/\(∀r∈p.aDK,r.aDX.length<=8)/\∀k∈p.aDV,JU n k
def yH:Nat->Nat
 |0=>0
 |n+1=>136+16 * yH n
theorem ME{l:List Ob}(h:lI l=0):l.length<=8:=by
 unfold lI at h;by_cases h8:8<l.length
 .rw[iP h8] at h;exact absurd h qe
 .omega
theorem Fu{r:Ru}{s:WS}(h:(fS r s).1=0):r.aDX.length<=8:=by
 unfold fS at h;generalize gQ r.id s=q at *;obtain⟨b,s1⟩:=q;simp only at h;by_cases h1:b=false
 .rw[iP h1] at h;simp at h
 rw[iN h1] at h;by_cases h2:64<s1.aDK+1
 .rw[iP h2] at h;simp at h
 rw[iN h2] at h;by_cases h3:fA r.aDR=0
 case neg=>rw[iP h3] at h;exact absurd h h3
 rw[iN (fun a=>a h3)] at h;by_cases h4:lH r.cond=0
 case neg=>rw[iP h4] at h;exact absurd h h4
 rw[iN (fun a=>a h4)] at h;exact ME h
theorem Fv{p:Po}{s:WS}(h:(fL p s).1=0):p.aDX.length<=8:=by
 unfold fL at h;generalize gQ p.id s=q at *;obtain⟨b,s1⟩:=q;simp only at h;by_cases h1:b=false\/p.alg<1\/6<p.alg
 .rw[iP h1] at h;simp at h
 rw[iN h1] at h;by_cases h2:(p.set=true/\p.aDK≠[])\/(p.set=false/\(0<p.aDV.length\/p.alg=4))
 .rw[iP h2] at h;simp at h
 rw[iN h2] at h;by_cases h3:fA p.aDR=0
 case neg=>rw[iP h3] at h;exact absurd h h3
 rw[iN (fun a=>a h3)] at h;by_cases h4:lI p.aDX=0
 case neg=>rw[iP h4] at h;exact absurd h h4
 exact ME h4
theorem JV{α:Type}{f:α->WS->Int×WS}{Q:α->Prop}(b:∀x s,(f x s).1=0->Q x):∀(l:List α) (s:WS),(jH f l s).1=0->∀x∈l,Q x
 | [],_,_,x,a=>by cases a
 |y::l,s,h,x,a=>by
  unfold jH at h;by_cases h1:(f y s).1=0
  .rcases List.mem_cons.1 a with rfl|a
   .exact b _ _ h1
   .refine JV b l (f y s).2 ?_ x a;simp only[h1,ne_eq,not_true,if_false] at h;exact h
  .simp only[ne_eq,h1,not_false_iff,if_true] at h
theorem Bo:∀(n:Nat) (p:Po) (s:WS),(eQ n p s).1=0->JU n p
 |0,_,_,h=>by simp[eQ] at h
 |n+1,p,s,h=>by
  unfold eQ at h;by_cases h1:(fL p s).1=0
  case neg=>simp only[ne_eq,h1,not_false_iff,if_true] at h
  simp only[h1,ne_eq,not_true,if_false] at h;by_cases h2:(jH fS p.aDK (fL p s).2).1=0
  case neg=>simp only[h2,not_false_iff,if_true] at h
  simp only[h2,not_true,if_false] at h;exact⟨(vJ h1).1,(vJ h1).2,Fv h1,JV (fun x s a=>Fu a) _ _ h2,JV (fun x s a=>Bo n x s a) _ _ h⟩
theorem MF{p:Po}(h:fC p=0):JU 4 p:=Bo 4 p _ h
theorem MG(l:List Ob)(m:Mk):(gR l m).length<=l.length:=List.length_filter_le _ _
theorem Lu(g:List Gv)(r:Ru):(iC g r).2.length<=r.aDX.length:=by
 unfold iC ES;simp only;split
 .exact Nat.zero_le _
 split
 .exact Nat.zero_le _
 .exact MG _ _
theorem QV(first:Bool)(m:Mk):∀l:List (Mk×List Ob),(gJ first m l).length<=(l.map (·.2.length)).sum
 | []=>Nat.zero_le _
 |x::l=>by
  have:=QV first m l
  unfold gJ;rw[List.map_cons,List.sum_cons];split
  .omega
  split
  .omega
  .rw[aL];omega
theorem Lv(alg:Int)(obls:List Ob)(t:Nat)(l:List (Mk×List Ob)):(rU alg obls t l).2.length<=(l.map (·.2.length)).sum+obls.length:=by
 unfold rU;simp only;split
 .exact Nat.zero_le _
 split
 .exact Nat.zero_le _
 split
 .exact Nat.zero_le _
 .have h1:=QV (decide (alg=3)) (CF alg (l.map (·.1))) l;have h2:=MG obls (CF alg (l.map (·.1)));rw[aL];omega
theorem WY{α:Type}(f:α->Nat)(b:Nat):∀l:List α,(∀x∈l,f x<=b)->(l.map f).sum<=l.length * b
 | [],_=>Nat.zero_le _
 |x::l,h=>by
  have h1:=WY f b l (fun y a=>h y (List.mem_cons_of_mem _ a));have h2:=h x (List.mem_cons_self ..);rw[List.map_cons,List.sum_cons,List.length_cons,Nat.add_mul];omega
theorem QW{n:Nat}{p:Po}(g:List Gv)(f:∀k∈p.aDV,(cU g n k).2.length<=yH n)(h:JU (n+1) p):((p.aDK.map (iC g)++p.aDV.map (cU g n)).map (·.2.length)).sum<=128+16 * yH n:=by
 obtain⟨h1,h2,_,h4,_⟩:=h;rw[List.map_append,List.sum_append,List.map_map,List.map_map];have a:=WY (fun r=>(iC g r).2.length) 8 p.aDK (fun r i=>lT (Lu g r) (h4 r i));have b:=WY (fun k=>(cU g n k).2.length) (yH n) p.aDV f;have c:p.aDV.length * yH n<=16 * yH n:=Nat.mul_le_mul_right _ h2;have d:((fun x:Mk×List Ob=>x.2.length) ∘ iC g)=(fun r=>(iC g r).2.length):=rfl;have e:((fun x:Mk×List Ob=>x.2.length) ∘ cU g n)=(fun k=>(cU g n k).2.length):=rfl;rw[d,e];omega
theorem yI(g:List Gv):∀(n:Nat) (p:Po),JU n p->(cU g n p).2.length<=yH n
 |0,_,h=>h.elim
 |n+1,p,h=>by
  have b:=QW g (fun k a=>yI g n k (h.2.2.2.2 k a)) h;unfold cU yH;simp only;split
  .exact Nat.zero_le _
  .have hj:=Lv p.alg p.aDX (rT g p.aDR) (p.aDK.map (iC g)++p.aDV.map (cU g n));have:=h.2.2.1;omega
theorem Xh:∀n,n<=4->yH n<=600000:=qe
theorem Ro{n:Nat}(b:n<=3){p:Po}(g:List Gv)(h:JU (n+1) p):((p.aDK.map (iC g)++p.aDV.map (cU g n)).map (·.2.length)).sum<=900000:=by
 have h1:=QW g (fun k a=>yI g n k (h.2.2.2.2 k a)) h;have h2:∀n,n<=3->128+16 * yH n<=900000:=qe;have:=h2 n b;omega
theorem IP(g:List Gv)(r:Ru):Cm.fC (iC g r).1=true:=by
 unfold iC ES;simp only;have hm:Cm.fC (if r.aEi=true then ((0,4):Mk) else (4,0))=true:=by split<;>decide
 split
 .decide
 split
 .exact IL hm
 .exact hm
theorem ZP{n:Nat}{g:List Gv}{p:Po}(b:∀k,Cm.fC (cU g n k).1=true):∀m∈(p.aDK.map (iC g)++p.aDV.map (cU g n)).map (·.1),Cm.fC m=true:=by
 intro m hm;obtain⟨x,a,rfl⟩:=List.mem_map.1 hm
 rcases List.mem_append.1 a with a|a
 .obtain⟨r,_,rfl⟩:=List.mem_map.1 a;exact IP g r
 .obtain⟨k,_,rfl⟩:=List.mem_map.1 a;exact b k
theorem uX(g:List Gv):∀(n:Nat) (p:Po),Cm.fC (cU g n p).1=true
 |0,_=>by unfold cU;decide
 |n+1,p=>by
  have hp:=QT p.alg _ (ZP (n:=n) (g:=g) (p:=p) (fun k=>uX g n k));unfold cU rU;simp only;split
  .rfl
  split
  .exact IL hp
  split
  .exact hp
  .exact hp
end Go.Proofs.YtheabjeppmdmiaaGreatDoor
