/- Part 9. -/
import Derived.Test.YtejafaaihodehaaGreatDoorZ08
import Derived.Deep.Cut
set_option linter.all false
set_option maxRecDepth 100000
set_option maxHeartbeats 8000000
namespace Go.Proofs.YtejafaaihodehaaGreatDoor
open Go Go.RowKit Tryz
def Tz:Value->Nat
 |.string s=>s.size
 |_=>0
theorem rE(s:ByteArray)(a b:Nat)(h:s.size<=b):L (s.extract a b)=(L s).drop a:=by
 rw[dX,aO (by rw[<-cm];exact h)]
def KK(w:World)(r:gG × List bG × Int)(e:Ending)(w':World):Prop:=
 ∃v,e=.returned (.tuple #[.agg #[.string (bs r.1.rest),.bool r.1.inside],v,.int .i64 r.2.2])/\b8 w' w.heap.size 75 3 (fun g=>w.heap.size<=g) v (r.2.1.map bG.gv)/\Below w.heap.size w w'
structure gj(w wr:World)(X:Nat)(rest:ByteArray)(b:Bool)(v:Value)(o:List bG):Prop where
 hX:bL wr X 53 #[.string rest,.bool b]
 hR:bL wr (X+1) 53 #[.string (bs []),.bool false]
 own:b8 wr (X+2) 75 3 (fun g=>X+2<=g) v (o.map bG.gv)
 below:Below w.heap.size w wr
 SK:X=w.heap.size
theorem gj.step{w wr w':World}{X:Nat}{rest:ByteArray}{b:Bool}{v:Value}{o:List bG}(h:gj w wr X rest b v o)(hb:Below wr.heap.size wr w'):gj w w' X rest b v o:=
 ⟨h.hX.below hb h.hX.lt,h.hR.below hb h.hR.lt,h.own.below hb,h.below.trans (hb.mono h.below.size),h.SK⟩
theorem gj.put{w wr:World}{X:Nat}{rest:ByteArray}{b:Bool}{v:Value}{o:List bG}(h:gj w wr X rest b v o)(b':Bool):gj w (wr.setCell ⟨X,1,none⟩ (.bool b')) X rest b' v o:=by
 have hg:wr.grownBy (wr.setCell ⟨X,1,none⟩ (.bool b')) (some X):=bF (bR _ _) (.inl rfl) _;have ho:v.ownBlock≠some X:=h.own.ne (by omega);refine⟨h.hX.cL 1 (.bool b'),h.hR.grown hg (by simp),h.own.kept hg (.inr ho) (fun k hk=>by have hk:X+2<=k:=hk;simp;omega),?_,h.SK⟩;exact h.below.trans (bN hg h.below.size (fun k hk=>by injection hk with hk;have:=h.SK;omega))
def NB(W:World)(R:Nat)(x0 x1:Value):World:=(W.setCell ⟨R,0,none⟩ x0).setCell ⟨R,1,none⟩ x1
theorem NC{a W:World}{R:Nat}{row:Option Nat}(h:a.grownBy W row)(hR:some R=row\/a.heap.size<=R)(x0 x1:Value):a.grownBy (NB W R x0 x1) row:=
 bF (bF h hR _) hR _
theorem gj.ret{w wr:World}{X:Nat}{rest:ByteArray}{b:Bool}{v:Value}{o:List bG}(h:gj w wr X rest b v o)(x0 x1:Value):
 bL (NB wr (X+1) x0 x1) (X+1) 53 #[x0,x1]/\b8 (NB wr (X+1) x0 x1) w.heap.size 75 3 (fun g=>w.heap.size<=g) v (o.map bG.gv)/\Below w.heap.size w (NB wr (X+1) x0 x1):=by
 have hg:wr.grownBy (NB wr (X+1) x0 x1) (some (X+1)):=NC (bR _ _) (.inl rfl) _ _;have hb:bL (NB wr (X+1) x0 x1) (X+1) 53 #[x0,x1]:=(h.hR.cL 0 x0).cL 1 x1;generalize NB wr (X+1) x0 x1=W at*;have ho:v.ownBlock≠some (X+1):=h.own.ne (by omega);have he:=h.SK;refine⟨hb,(h.own.kept hg (.inr ho) (fun k hk=>by have hk:X+2<=k:=hk;simp;omega)).dY (by omega) (fun k hk=>by have hk:X+2<=k:=hk;show w.heap.size<=k;omega),?_⟩;exact h.below.trans (bN hg h.below.size (fun k hk=>by injection hk with hk;omega))
theorem iB{w:World}{X:Nat}{tmps:Array Value}{x0 x1 v n:Value}(h4:tmps[4]?.getD undef=.pointer (some ⟨X+1,0,none⟩))(h5:tmps[5]?.getD undef=v)(h6:tmps[6]?.getD undef=n)
 (B0:bL w (X+1) 53 #[x0,x1]):
 (results f61 tmps).run prog w=.ok (.tuple #[.agg #[x0,x1],v,n]) w:=by
 have a0:=B0.cell 0;have a1:=B0.cell 1;simp[results,results61,go_sem,h4,h5,h6,a0,a1]
theorem gj.push{w wr w':World}{X:Nat}{rest:ByteArray}{b:Bool}{v v':Value}{o o':List bG}(h:gj w wr X rest b v o)
 (hg:wr.grownBy w' v.ownBlock) (ho:b8 w' (X+2) 75 3 (fun g=>X+2<=g) v' (o'.map bG.gv)):gj w w' X rest b v' o':=by
 have db:∀x,x<X+2->some x≠v.ownBlock:=fun x hx e=>by have:=(h.own.lt x e.symm).1;omega
 refine⟨h.hX.grown hg (db X (by omega)),h.hR.grown hg (db (X+1) (by omega)),ho,?_,h.SK⟩;exact h.below.trans (bN hg h.below.size (fun k hk=>by have:=(h.own.lt k hk).1;have:=h.SK;omega))
theorem ND(rest s:ByteArray)(b:Bool)(w:World)(lQ:rest.size+s.size<=1000000):
 Calls prog 61 #[.agg #[.string rest,.bool b],.string s] w (KK w (dC ⟨L rest,b⟩ (L s))):=by
 obtain⟨X,hX⟩:∃X,X=w.heap.size:=⟨_,rfl⟩;have xB:=bL.new w 53 #[.string rest,.bool b];rw[<-hX]at xB;have yi:=size_alloc w (.cells #[.string rest,.bool b] 53);have rB:=bL.new (w.alloc (.cells #[.string rest,.bool b] 53)) 53 #[.string (bs []),.bool false];rw[yi,<-hX]at rB;have st:gj w ((w.alloc (.cells #[.string rest,.bool b] 53)).alloc (.cells #[.string ⟨#[]⟩,.bool false] 53)) X rest b (.slice none 0 0) []:=
  ⟨xB.alloc _,rB,b8.nil _ _ _ _ _,(cU _ _).alloc (by rw[yi];omega) _,hX⟩
 have HX:=bD hX;clear yi xB rB;have c0:=st.hX.cell 0;have c1:=st.hX.cell 1;have hXs:w.heap.size=X:=hX.symm;clear hX;go_enter func61,ntmps61;go_wp2_with fail;generalize(w.alloc (.cells #[.string rest,.bool b] 53)).alloc (.cells #[.string ⟨#[]⟩,.bool false] 53)=w1 at*;clear c0 c1;refine(Bj rest b _ (by omega)).mono ?_;rintro e w2 ⟨rfl,cu⟩;have GC:=st.step cu;clear st cu;cases J5:jo ⟨L rest,b⟩with
 |false=>
  have HF:Hy (dC ⟨L rest,b⟩ (L s)=(⟨[],false⟩,[],1)):=by rw[Hy,dC,aa (by rw[J5];simp)]
  clear J5;have q0:=GC.hR.cell 0;have q1:=GC.hR.cell 1;have z0:=GC.hR.frozen 0;have z1:=GC.hR.frozen 1;go_wp2_with fail;obtain⟨r0,r1,r2⟩:=GC.ret (.string (bs [])) (.bool false);refine ag (iB rfl rfl rfl r0) rfl ⟨.slice none 0 0,by rw[HF.o];rfl,?_,r2⟩;rw[HF.o];exact r1
 |true=>
  have HF:Hy (dC ⟨L rest,b⟩ (L s)=cC ((L rest++L s).length+1) b (L rest++L s) []):=by rw[Hy,dC,ae J5]
  clear J5;have q0:=GC.hX.cell 0;have q1:=GC.hX.cell 1;go_wp2_with fail;have V6:Hy (dC ⟨L rest,b⟩ (L s)=cC ((rest++s).size+1) b (L (rest++s)) []):=HF.o.trans (by rw[ow,cm,ow]);have wm:(rest++s).size<=1000000:=by rw[aP];omega
  generalize rest++s=s0 at*;generalize dC ⟨L rest,b⟩ (L s)=F at*;clear HF q0 q1;go_loopw [1,7] (fun s1 v1 wr=>∃(n:Nat) (b':Bool) (sb:ByteArray) (o:List bG),s1=.string sb/\gj w wr X rest b' v1 o/\sb.size<n/\o.length+sb.size<=1000000/\Hy (F=cC n b' (L sb) o))
   (fun s1 _ _=>Tz s1)
  case atStart=>exact⟨s0.size+1,b,s0,[],rfl,GC,by omega,by simpa using wm,V6⟩
  case round=>
   obtain⟨n,b',sb,o,rfl,st,hn,Np,HG⟩:=hrel;clear GC V6 wm;obtain⟨n,rfl⟩:∃n',n=n'+1:=⟨n-1,by omega⟩;have q1:=st.hX.cell 1;obtain⟨IK,Yn⟩:=nW b' (L sb);rw[<-cm]at Yn;have tj:Hy (F=(
    let m:=(bX b' (L sb)).1
    let i:=(bX b' (L sb)).2
    let out:=if 0<i then o++[bS ((L sb).take i)]else o
    let s:=(L sb).drop i
    if s.length<m.length\/m=[]then(⟨s,b'⟩,out,0)
    else if m=ox\/m=tB then cC n (decide (m=ox)) (s.drop m.length) out
    else
     let c:=fe s m
     if c.2.2≠0 then(⟨[],false⟩,[],c.2.2)
     else if c.2.1=0 then(⟨s,b'⟩,out,0)
     else cC n b' (s.drop c.2.1) (out++[c.1]))):=HG.o
   clear HG;go_wp2_with fail;refine(Da sb b' _ (by omega)).mono ?_;rintro e w3 ⟨rfl,fm⟩;have ti:=st.step fm;clear st fm q1;generalize bX b' (L sb)=mi at*;obtain⟨m,i⟩:=mi;have IK:m.length<=7:=IK;have Yn:i<=sb.size:=Yn;obtain⟨Av,cv,hve⟩:=ti.own.form;subst hve;rw[ah]at ti|-;obtain⟨N,hN⟩:∃N,N=o.length:=⟨_,rfl⟩;rw[<-hN]at ti Np|-;have HN:=bD hN;clear hN;have hsm:(bs m).size=m.length:=bJ m;have Fy:(bs m).toList=m:=bQ m;have hLi:Hy ((L (sb.extract i sb.size))=(L sb).drop i):=by
    rw[Hy,dX,aO (by rw[cm];exact dv _)]
   have Yo:Hy (((L sb).drop i).length=sb.size-i):=by rw[Hy,aj,<-cm]
   have h8:N<=1000000:=by omega
   rcases Nat.eq_zero_or_pos i with MT|MT
   ·subst MT;have nQ:Hy (F=(if(L (sb)).length<m.length\/m=[]then(⟨L (sb),b'⟩,o,0)
     else if m=ox\/m=tB then cC n (decide (m=ox)) ((L (sb)).drop m.length) (o)
     else if(fe (L (sb)) m).2.2≠0 then(⟨[],false⟩,[],(fe (L (sb)) m).2.2)
     else if(fe (L (sb)) m).2.1=0 then(⟨L (sb),b'⟩,o,0)
     else cC n b' ((L (sb)).drop (fe (L (sb)) m).2.1) (o++[(fe (L (sb)) m).1]))):=tj.o
    clear tj hLi Yo;have q0:=ti.hX.cell 0;have q1:=ti.hX.cell 1;have q2:=ti.hX.frozen 1;have z0:=ti.hR.cell 0;have z1:=ti.hR.cell 1;have z2:=ti.hR.frozen 0;have z3:=ti.hR.frozen 1;by_cases hA:sb.size<m.length\/m=[]
    ·have hc:(L (sb)).length<m.length\/m=[]:=by
      rw[<-cm];exact hA
     have HC:=bD hc;have hA2:sb.size<m.length\/m.isEmpty=true:=by
      rcases hA with h|h
      ·exact .inl h
      ·exact .inr (by rw[h];rfl)
     have HA:=bD hA2;clear hc hA hA2;rcases Nat.lt_or_ge (sb.size) m.length with KL|KL
     ·go_wp2_with fail;obtain⟨r0,r1,r2⟩:=ti.ret (.string (sb)) (.bool b');refine ag (iB rfl rfl rfl r0) rfl ⟨.slice Av N cv,?_,?_,r2⟩
      ·rw[nQ.o,ae HC.o,qo];rfl
      ·rw[nQ.o,ae HC.o];exact r1
     ·have Yp:m.isEmpty=true:=HA.o.resolve_left (by omega);go_wp2_with fail;obtain⟨r0,r1,r2⟩:=ti.ret (.string (sb)) (.bool b');refine ag (iB rfl rfl rfl r0) rfl ⟨.slice Av N cv,?_,?_,r2⟩
      ·rw[nQ.o,ae HC.o,qo];rfl
      ·rw[nQ.o,ae HC.o];exact r1
    ·have KL:¬sb.size<m.length:=fun h=>hA (.inl h);have tI:¬m=[]:=fun h=>hA (.inr h);have CQ:0<m.length:=List.length_pos_iff.2 tI;have Yp:m.isEmpty=false:=by simpa using tI
     have as8:¬m=[]:=tI;have NF:¬((L (sb)).length<m.length\/m=[]):=by
      rw[<-cm];exact hA
     have ud:=bD (nQ.o.trans (aa NF));clear nQ hA NF tI;by_cases hB:m=ox
     ·have qO:Hy (F=cC n true ((L (sb)).drop m.length) (o)):=ud.o.trans (by rw[ae (.inl hB),aS hB]);have dG:(m==[60,33,45,45,101,115,105])=true:=by rw[hB];rfl
      have HB:=bD hB;clear ud hB;go_wp2_with fail;refine⟨⟨n,true,(sb).extract m.length (sb.size),o,rfl,ti.put true,?_,?_,?_⟩,?_⟩
      ·rw[aA];omega
      ·have PR:=HN.o;rw[aA];omega
      ·rw[Hy,qO.o,rE (sb) m.length (sb.size) (dv _)]
      ·show((sb).extract m.length (sb.size)).size<sb.size
       rw[aA];omega
     ·by_cases tX:m=tB
      ·have qO:Hy (F=cC n false ((L (sb)).drop m.length) (o)):=ud.o.trans (by rw[ae (.inr tX),aT hB]);have dG:(m==[60,33,45,45,101,115,105])=false:=by rw[tX];rfl
       have cu:(m==[45,45,62])=true:=by rw[tX];rfl
       clear ud hB tX;go_wp2_with fail;refine⟨⟨n,false,(sb).extract m.length (sb.size),o,rfl,ti.put false,?_,?_,?_⟩,?_⟩
       ·rw[aA];omega
       ·have PR:=HN.o;rw[aA];omega
       ·rw[Hy,qO.o,rE (sb) m.length (sb.size) (dv _)]
       ·show((sb).extract m.length (sb.size)).size<sb.size
        rw[aA];omega
      ·have TC:¬(m=ox\/m=tB):=by
        rintro (h|h)
        ·exact hB h
        ·exact tX h
       have qO:=bD (ud.o.trans (aa TC));have dG:(m==[60,33,45,45,101,115,105])=false:=ai.2 hB;have cu:(m==[45,45,62])=false:=ai.2 tX;clear ud hB tX TC;go_wp2_with fail;refine(Ae (sb) (bs m) _ (by omega) (by rw[bJ];omega)).mono ?_;rw[eB];have rF:=sH (s:=L (sb)) (m:=m);rw[<-cm]at rF;generalize fe (L (sb)) m=r at*;obtain⟨tk,nn,bad⟩:=r;obtain⟨uv,nC,hc3⟩:=rF;simp only at uv nC hc3;rintro e w5 ⟨va,rfl,cO,kM⟩;obtain⟨At,ct,rfl,-,-,-⟩:=dV cO;have tV:=bD cO;have SN:Hy (w3.heap.size<=w5.heap.size/\X+2<=w3.heap.size):=⟨kM.size,by have:=ti.hR.lt;omega⟩;have tU:Hy (∀k,(Value.slice Av N cv).ownBlock=some k->X+2<=k/\k<w3.heap.size):=ti.own.lt;have qs:=ti.step kM;clear ti cO kM q0 q1 q2 z0 z1 z2 z3;have q0:=qs.hX.cell 0;have q1:=qs.hX.cell 1;have q2:=qs.hX.frozen 1;have z0:=qs.hR.cell 0;have z1:=qs.hR.cell 1;have z2:=qs.hR.frozen 0;have z3:=qs.hR.frozen 1;have NG:=qs.hX.lt;have vK:=qs.hR.lt;have PC:=qs.step (cU _ (.cells #[.int .i64 tk.kind,.string (bs tk.text),.slice At tk.bK.length ct] 75));have as9:=size_alloc w5 (.cells #[.int .i64 tk.kind,.string (bs tk.text),.slice At tk.bK.length ct] 75);by_cases lM:bad=0
       ·have jL:(bad !=0)=false:=by rw[lM];rfl
        have tP:Hy (F=if nn=0 then(⟨L (sb),b'⟩,o,0)else cC n b' ((L (sb)).drop nn) (o++[tk])):=qO.o.trans (aa (by simpa using lM));clear qO lM;by_cases IP:nn=0
        ·have Ix:((nn:Int)==0)=true:=by rw[IP];rfl
         have xW:Hy (F=(⟨L (sb),b'⟩,o,0)):=tP.o.trans (ae IP);clear tP IP;go_wp2_with fail;obtain⟨r0,r1,r2⟩:=qs.ret (.string (sb)) (.bool b');refine ag (iB rfl rfl rfl (r0.alloc (.cells #[.int .i64 tk.kind,.string (bs tk.text),.slice At tk.bK.length ct] 75))) rfl ⟨.slice Av N cv,?_,?_,r2.alloc r2.size _⟩
         ·rw[xW.o,qo];rfl
         ·rw[xW.o];exact r1.below (cU _ _)
        ·have Ix:((nn:Int)==0)=false:=by rw[ai];omega
         have xW:Hy (F=cC n b' ((L (sb)).drop nn) (o++[tk])):=tP.o.trans (aa IP);have PT:0<nn:=by omega
         clear tP IP;obtain⟨t0,t1,t2⟩:=nw ((bL.new w5 75 #[.int .i64 tk.kind,.string (bs tk.text),.slice At tk.bK.length ct]));have VL:(0:Int)<=(nn:Int):=by omega
         have hn5:(nn:Int)<=(sb.size:Int):=by omega
         go_wp2_with fail;refine wp_region_any (by kernel_rfl) ?_;change wpAny _ _ _ _ _ _ _ (World.drew _);refine xe 0 ?_;refine xe 4 ?_;refine xe 5 ?_;refine xe 6 ?_;refine wpAny_ready (rs:=[1]) (by kernel_rfl) (by simp) ?_;refine AllReady.cons rfl (fun K_ bP=>?_) AllReady.nil;go_simp;refine bP _ _ ?_;clear bP K_;refine wpAny_ready (rs:=[2]) (by kernel_rfl) (by simp) ?_;refine AllReady.cons rfl (fun K_ bP=>?_) AllReady.nil;go_simp;refine bP _ _ ?_;clear bP K_;refine wpAny_ready (rs:=[3]) (by kernel_rfl) (by simp) ?_;refine AllReady.cons rfl (fun K_ bP=>?_) AllReady.nil;have KI:Hy (b8 (((w5.alloc (.cells #[.int .i64 tk.kind,.string (bs tk.text),.slice At tk.bK.length ct] 75)).alloc (.cells #[.int .i64 tk.kind,.string (bs tk.text),.slice At tk.bK.length ct] 75)).drew) (X+2) 75 3 (fun g=>X+2<=g) (.slice Av N cv) ((o).map bG.gv)):=qs.own.below (((cU _ _).alloc (by rw[size_alloc];omega) _).drew);have HC:Hy (mR (((w5.alloc (.cells #[.int .i64 tk.kind,.string (bs tk.text),.slice At tk.bK.length ct] 75)).alloc (.cells #[.int .i64 tk.kind,.string (bs tk.text),.slice At tk.bK.length ct] 75)).drew) (fun _=>True) (some ⟨w5.heap.size+1,0,none⟩) [.int .i64 tk.kind,.string (bs tk.text),.slice At tk.bK.length ct]):=by
          have:=pz (bL.new (w5.alloc (.cells #[.int .i64 tk.kind,.string (bs tk.text),.slice At tk.bK.length ct] 75)) 75 [.int .i64 tk.kind,.string (bs tk.text),.slice At tk.bK.length ct].toArray);rw[size_alloc]at this;exact this
         have HG:Hy (fW (((w5.alloc (.cells #[.int .i64 tk.kind,.string (bs tk.text),.slice At tk.bK.length ct] 75)).alloc (.cells #[.int .i64 tk.kind,.string (bs tk.text),.slice At tk.bK.length ct] 75)).drew) (fun k=>(X+2<=k)/\some k≠(Value.slice Av N cv).ownBlock) 3 [tk.gv] [.int .i64 tk.kind,.string (bs tk.text),.slice At tk.bK.length ct]):=by
          refine lp (ke ?_) rfl;have jL:Below w5.heap.size w5 (((w5.alloc (.cells #[.int .i64 tk.kind,.string (bs tk.text),.slice At tk.bK.length ct] 75)).alloc (.cells #[.int .i64 tk.kind,.string (bs tk.text),.slice At tk.bK.length ct] 75)).drew):=((cU _ _).alloc (by rw[size_alloc];omega) _).drew;have zX:=SN.o.2;refine GR.mono (fun x hx=>?_) (fun x _ bW=>jL.block x bW) _ _ tV.o;have hx:w3.heap.size<=x:=hx;refine⟨show X+2<=x by omega,fun e=>?_⟩;have:=(tU.o x e.symm).2;omega
         have HL:Hy (((o).map bG.gv).length+[tk.gv].length<=maxLen/\(((o).map bG.gv).length+[tk.gv].length)*48<=140737488355328/\
          X+2<=(((w5.alloc (.cells #[.int .i64 tk.kind,.string (bs tk.text),.slice At tk.bK.length ct] 75)).alloc (.cells #[.int .i64 tk.kind,.string (bs tk.text),.slice At tk.bK.length ct] 75)).drew).heap.size/\N+1=((o).map bG.gv++[tk.gv]).length):=by
          have PR:=HN.o;have MW:(((w5.alloc (.cells #[.int .i64 tk.kind,.string (bs tk.text),.slice At tk.bK.length ct] 75)).alloc (.cells #[.int .i64 tk.kind,.string (bs tk.text),.slice At tk.bK.length ct] 75)).drew).heap.size=w5.heap.size+1+1:=by
           show((w5.alloc (.cells #[.int .i64 tk.kind,.string (bs tk.text),.slice At tk.bK.length ct] 75)).alloc (.cells #[.int .i64 tk.kind,.string (bs tk.text),.slice At tk.bK.length ct] 75)).heap.size=_
           rw[size_alloc,size_alloc]
          refine⟨?_,?_,?_,?_⟩
          ·simp[maxLen]at PR|-;omega
          ·simp at PR|-;omega
          ·rw[MW];omega
          ·simp at PR|-;omega
         refine qN (by rfl) _ _ _ (by rfl) nI rfl KI.o (by rfl) (by rfl) HC.o HG.o HL.o.1 HL.o.2.1 HL.o.2.2.1 HL.o.2.2.2 ?_;intro A7 c7 w7 bZ cO fG;have V8:gj w w7 X rest b' (.slice A7 (N+1) c7) (o++[tk]):=(qs.step (((cU _ (.cells #[.int .i64 tk.kind,.string (bs tk.text),.slice At tk.bK.length ct] 75)).alloc (by rw[size_alloc];omega) (.cells #[.int .i64 tk.kind,.string (bs tk.text),.slice At tk.bK.length ct] 75)).drew)).push cO (by rw[aK];exact bZ);refine bP _ _ ?_;clear bP K_;clear q0 q1 q2 z0 z1 z2 z3 t0 t1 t2 bZ cO fG qs PC;refine wpAny_ready (rs:=[7]) (by kernel_rfl) (by simp) ?_;refine AllReady.cons rfl (fun K_ bP=>?_) AllReady.nil;go_simp;refine bP _ _ ?_;clear bP K_;refine wpAny_ready (rs:=[8]) (by kernel_rfl) (by simp) ?_;refine AllReady.cons rfl (fun K_ bP=>?_) AllReady.nil;go_simp;refine bP _ _ ?_;clear bP K_;refine wpAny_done (by kernel_rfl) ?_ _;go_wp2_with fail;have PR:=HN.o;have hgo:((sb).extract nn (sb.size)).size<sb.size:=by
          rw[aA];omega
         refine⟨⟨n,b',(sb).extract nn (sb.size),o++[tk],rfl,V8,by omega,?_,?_⟩,hgo⟩
         ·rw[aA,af];simp only[ak,aD];omega
         ·rw[Hy,xW.o,rE (sb) nn (sb.size) (dv _)]
       ·have jL:(bad !=0)=true:=by rw[aQ];exact lM
        have tP:Hy (F=(⟨[],false⟩,[],bad)):=qO.o.trans (ae lM);clear qO lM;go_wp2_with fail;obtain⟨r0,r1,r2⟩:=qs.ret (.string (bs [])) (.bool false);refine ag (iB rfl rfl rfl (r0.alloc (.cells #[.int .i64 tk.kind,.string (bs tk.text),.slice At tk.bK.length ct] 75))) rfl ⟨.slice none 0 0,by rw[tP.o];rfl,?_,r2.alloc r2.size _⟩;rw[tP.o];exact b8.nil _ _ _ _ _
   ·have nQ:Hy (F=(if(L (sb.extract i sb.size)).length<m.length\/m=[]then(⟨L (sb.extract i sb.size),b'⟩,o++[bS ((L sb).take i)],0)
     else if m=ox\/m=tB then cC n (decide (m=ox)) ((L (sb.extract i sb.size)).drop m.length) (o++[bS ((L sb).take i)])
     else if(fe (L (sb.extract i sb.size)) m).2.2≠0 then(⟨[],false⟩,[],(fe (L (sb.extract i sb.size)) m).2.2)
     else if(fe (L (sb.extract i sb.size)) m).2.1=0 then(⟨L (sb.extract i sb.size),b'⟩,o++[bS ((L sb).take i)],0)
     else cC n b' ((L (sb.extract i sb.size)).drop (fe (L (sb.extract i sb.size)) m).2.1) (o++[bS ((L sb).take i)]++[(fe (L (sb.extract i sb.size)) m).1]))):=tj.o.trans (by simp only[ae MT,hLi.out])
    clear tj;have HZ:Hy ((sb.extract i sb.size).size=sb.size-i):=by rw[Hy,aA];omega
    have KI:Hy (b8 (w3.alloc (.cells #[.int .i64 0,.string (sb.extract 0 i),.slice none 0 0] 75)) (X+2) 75 3 (fun g=>X+2<=g) (.slice Av N cv) (o.map bG.gv)):=ti.own.below (cU _ _);have HC:Hy (mR (w3.alloc (.cells #[.int .i64 0,.string (sb.extract 0 i),.slice none 0 0] 75)) (fun _=>True) (some ⟨w3.heap.size,0,none⟩) [.int .i64 0,.string (sb.extract 0 i),.slice none 0 0]):=
     pz (bL.new w3 75 [.int .i64 0,.string (sb.extract 0 i),.slice none 0 0].toArray)
    have HG:Hy (fW (w3.alloc (.cells #[.int .i64 0,.string (sb.extract 0 i),.slice none 0 0] 75)) (fun k=>(X+2<=k)/\some k≠(Value.slice Av N cv).ownBlock) 3 [(bS ((L sb).take i)).gv] [.int .i64 0,.string (sb.extract 0 i),.slice none 0 0]):=by
     refine lp ?_ rfl;have e:sb.extract 0 i=bs ((L sb).take i):=tZ (by rw[dX,eB,bm]);rw[e];exact ke cS
    have HL:Hy ((o.map bG.gv).length+[(bS ((L sb).take i)).gv].length<=maxLen/\((o.map bG.gv).length+[(bS ((L sb).take i)).gv].length)*48<=140737488355328/\
     X+2<=(w3.alloc (.cells #[.int .i64 0,.string (sb.extract 0 i),.slice none 0 0] 75)).heap.size/\N+1=(o.map bG.gv++[(bS ((L sb).take i)).gv]).length):=by
     have PR:=HN.o;have hs:=ti.hR.lt;refine⟨?_,?_,?_,?_⟩
     ·simp[maxLen];omega
     ·simp;omega
     ·rw[size_alloc];omega
     ·simp;omega
    go_upto_region 8 with(at_builtin;go_loud (refine gX rfl _ _ _ rfl nI rfl KI.o rfl rfl HC.o HG.o HL.o.1 HL.o.2.1 HL.o.2.2.1 HL.o.2.2.2 ?_);intro A4 c4 w4 bZ cO fG;have Yq:=bD bZ;have ai2:=bD cO;clear bZ cO fG)
    have pj:gj w w4 X rest b' (.slice A4 (N+1) c4) (o++[bS ((L sb).take i)]):=(ti.step (cU _ (.cells #[.int .i64 0,.string (sb.extract 0 i),.slice none 0 0] 75))).push ai2.o (by rw[aK];exact Yq.o);have aC6:N+1+(sb.size-i)<=1000000:=by omega
    have NH:Hy (N+1=(o++[bS ((L sb).take i)]).length):=by rw[Hy,HN.o];simp
    clear KI HC HG HL Yq ai2 hLi Yo ti Np HN;have q0:=pj.hX.cell 0;have q1:=pj.hX.cell 1;have q2:=pj.hX.frozen 1;have z0:=pj.hR.cell 0;have z1:=pj.hR.cell 1;have z2:=pj.hR.frozen 0;have z3:=pj.hR.frozen 1;by_cases hA:sb.size-i<m.length\/m=[]
    ·have hc:(L (sb.extract i sb.size)).length<m.length\/m=[]:=by
      rw[<-cm,HZ.o];exact hA
     have HC:=bD hc;have hA2:sb.size-i<m.length\/m.isEmpty=true:=by
      rcases hA with h|h
      ·exact .inl h
      ·exact .inr (by rw[h];rfl)
     have HA:=bD hA2;clear hc hA hA2;rcases Nat.lt_or_ge (sb.size-i) m.length with KL|KL
     ·go_wp2_with fail;obtain⟨r0,r1,r2⟩:=pj.ret (.string (sb.extract i sb.size)) (.bool b');refine ag (iB rfl rfl rfl r0) rfl ⟨.slice A4 (N+1) c4,?_,?_,r2⟩
      ·rw[nQ.o,ae HC.o,qo];rfl
      ·rw[nQ.o,ae HC.o];exact r1
     ·have Yp:m.isEmpty=true:=HA.o.resolve_left (by omega);go_wp2_with fail;obtain⟨r0,r1,r2⟩:=pj.ret (.string (sb.extract i sb.size)) (.bool b');refine ag (iB rfl rfl rfl r0) rfl ⟨.slice A4 (N+1) c4,?_,?_,r2⟩
      ·rw[nQ.o,ae HC.o,qo];rfl
      ·rw[nQ.o,ae HC.o];exact r1
    ·have KL:¬sb.size-i<m.length:=fun h=>hA (.inl h);have tI:¬m=[]:=fun h=>hA (.inr h);have CQ:0<m.length:=List.length_pos_iff.2 tI;have Yp:m.isEmpty=false:=by simpa using tI
     have as8:¬m=[]:=tI;have NF:¬((L (sb.extract i sb.size)).length<m.length\/m=[]):=by
      rw[<-cm,HZ.o];exact hA
     have ud:=bD (nQ.o.trans (aa NF));clear nQ hA NF tI;by_cases hB:m=ox
     ·have qO:Hy (F=cC n true ((L (sb.extract i sb.size)).drop m.length) (o++[bS ((L sb).take i)])):=ud.o.trans (by rw[ae (.inl hB),aS hB]);have dG:(m==[60,33,45,45,101,115,105])=true:=by rw[hB];rfl
      have HB:=bD hB;clear ud hB;go_wp2_with fail;refine⟨⟨n,true,(sb.extract i sb.size).extract m.length (sb.size-i),o++[bS ((L sb).take i)],rfl,pj.put true,?_,?_,?_⟩,?_⟩
      ·rw[aA];omega
      ·have PR:=NH.o;rw[aA];omega
      ·rw[Hy,qO.o,rE (sb.extract i sb.size) m.length (sb.size-i) (by rw[HZ.o];exact dv _)]
      ·show((sb.extract i sb.size).extract m.length (sb.size-i)).size<sb.size
       rw[aA];omega
     ·by_cases tX:m=tB
      ·have qO:Hy (F=cC n false ((L (sb.extract i sb.size)).drop m.length) (o++[bS ((L sb).take i)])):=ud.o.trans (by rw[ae (.inr tX),aT hB]);have dG:(m==[60,33,45,45,101,115,105])=false:=by rw[tX];rfl
       have cu:(m==[45,45,62])=true:=by rw[tX];rfl
       clear ud hB tX;go_wp2_with fail;refine⟨⟨n,false,(sb.extract i sb.size).extract m.length (sb.size-i),o++[bS ((L sb).take i)],rfl,pj.put false,?_,?_,?_⟩,?_⟩
       ·rw[aA];omega
       ·have PR:=NH.o;rw[aA];omega
       ·rw[Hy,qO.o,rE (sb.extract i sb.size) m.length (sb.size-i) (by rw[HZ.o];exact dv _)]
       ·show((sb.extract i sb.size).extract m.length (sb.size-i)).size<sb.size
        rw[aA];omega
      ·have TC:¬(m=ox\/m=tB):=by
        rintro (h|h)
        ·exact hB h
        ·exact tX h
       have qO:=bD (ud.o.trans (aa TC));have dG:(m==[60,33,45,45,101,115,105])=false:=ai.2 hB;have cu:(m==[45,45,62])=false:=ai.2 tX;clear ud hB tX TC;go_wp2_with fail;refine(Ae (sb.extract i sb.size) (bs m) _ (by rw[HZ.o];omega) (by rw[bJ];omega)).mono ?_;rw[eB];have rF:=sH (s:=L (sb.extract i sb.size)) (m:=m);rw[<-cm,HZ.o]at rF;generalize fe (L (sb.extract i sb.size)) m=r at*;obtain⟨tk,nn,bad⟩:=r;obtain⟨uv,nC,hc3⟩:=rF;simp only at uv nC hc3;rintro e w5 ⟨va,rfl,cO,kM⟩;obtain⟨At,ct,rfl,-,-,-⟩:=dV cO;have tV:=bD cO;have SN:Hy (w4.heap.size<=w5.heap.size/\X+2<=w4.heap.size):=⟨kM.size,by have:=pj.hR.lt;omega⟩;have tU:Hy (∀k,(Value.slice A4 (N+1) c4).ownBlock=some k->X+2<=k/\k<w4.heap.size):=pj.own.lt;have qs:=pj.step kM;clear pj cO kM q0 q1 q2 z0 z1 z2 z3;have q0:=qs.hX.cell 0;have q1:=qs.hX.cell 1;have q2:=qs.hX.frozen 1;have z0:=qs.hR.cell 0;have z1:=qs.hR.cell 1;have z2:=qs.hR.frozen 0;have z3:=qs.hR.frozen 1;have NG:=qs.hX.lt;have vK:=qs.hR.lt;have PC:=qs.step (cU _ (.cells #[.int .i64 tk.kind,.string (bs tk.text),.slice At tk.bK.length ct] 75));have as9:=size_alloc w5 (.cells #[.int .i64 tk.kind,.string (bs tk.text),.slice At tk.bK.length ct] 75);by_cases lM:bad=0
       ·have jL:(bad !=0)=false:=by rw[lM];rfl
        have tP:Hy (F=if nn=0 then(⟨L (sb.extract i sb.size),b'⟩,o++[bS ((L sb).take i)],0)else cC n b' ((L (sb.extract i sb.size)).drop nn) (o++[bS ((L sb).take i)]++[tk])):=qO.o.trans (aa (by simpa using lM));clear qO lM;by_cases IP:nn=0
        ·have Ix:((nn:Int)==0)=true:=by rw[IP];rfl
         have xW:Hy (F=(⟨L (sb.extract i sb.size),b'⟩,o++[bS ((L sb).take i)],0)):=tP.o.trans (ae IP);clear tP IP;go_wp2_with fail;obtain⟨r0,r1,r2⟩:=qs.ret (.string (sb.extract i sb.size)) (.bool b');refine ag (iB rfl rfl rfl (r0.alloc (.cells #[.int .i64 tk.kind,.string (bs tk.text),.slice At tk.bK.length ct] 75))) rfl ⟨.slice A4 (N+1) c4,?_,?_,r2.alloc r2.size _⟩
         ·rw[xW.o,qo];rfl
         ·rw[xW.o];exact r1.below (cU _ _)
        ·have Ix:((nn:Int)==0)=false:=by rw[ai];omega
         have xW:Hy (F=cC n b' ((L (sb.extract i sb.size)).drop nn) (o++[bS ((L sb).take i)]++[tk])):=tP.o.trans (aa IP);have PT:0<nn:=by omega
         clear tP IP;obtain⟨t0,t1,t2⟩:=nw ((bL.new w5 75 #[.int .i64 tk.kind,.string (bs tk.text),.slice At tk.bK.length ct]));have VL:(0:Int)<=(nn:Int):=by omega
         have hn5:(nn:Int)<=(sb.size:Int):=by omega
         go_wp2_with fail;refine wp_region_any (by kernel_rfl) ?_;change wpAny _ _ _ _ _ _ _ (World.drew _);refine xe 0 ?_;refine xe 4 ?_;refine xe 5 ?_;refine xe 6 ?_;refine wpAny_ready (rs:=[1]) (by kernel_rfl) (by simp) ?_;refine AllReady.cons rfl (fun K_ bP=>?_) AllReady.nil;go_simp;refine bP _ _ ?_;clear bP K_;refine wpAny_ready (rs:=[2]) (by kernel_rfl) (by simp) ?_;refine AllReady.cons rfl (fun K_ bP=>?_) AllReady.nil;go_simp;refine bP _ _ ?_;clear bP K_;refine wpAny_ready (rs:=[3]) (by kernel_rfl) (by simp) ?_;refine AllReady.cons rfl (fun K_ bP=>?_) AllReady.nil;have KI:Hy (b8 (((w5.alloc (.cells #[.int .i64 tk.kind,.string (bs tk.text),.slice At tk.bK.length ct] 75)).alloc (.cells #[.int .i64 tk.kind,.string (bs tk.text),.slice At tk.bK.length ct] 75)).drew) (X+2) 75 3 (fun g=>X+2<=g) (.slice A4 (N+1) c4) ((o++[bS ((L sb).take i)]).map bG.gv)):=qs.own.below (((cU _ _).alloc (by rw[size_alloc];omega) _).drew);have HC:Hy (mR (((w5.alloc (.cells #[.int .i64 tk.kind,.string (bs tk.text),.slice At tk.bK.length ct] 75)).alloc (.cells #[.int .i64 tk.kind,.string (bs tk.text),.slice At tk.bK.length ct] 75)).drew) (fun _=>True) (some ⟨w5.heap.size+1,0,none⟩) [.int .i64 tk.kind,.string (bs tk.text),.slice At tk.bK.length ct]):=by
          have:=pz (bL.new (w5.alloc (.cells #[.int .i64 tk.kind,.string (bs tk.text),.slice At tk.bK.length ct] 75)) 75 [.int .i64 tk.kind,.string (bs tk.text),.slice At tk.bK.length ct].toArray);rw[size_alloc]at this;exact this
         have HG:Hy (fW (((w5.alloc (.cells #[.int .i64 tk.kind,.string (bs tk.text),.slice At tk.bK.length ct] 75)).alloc (.cells #[.int .i64 tk.kind,.string (bs tk.text),.slice At tk.bK.length ct] 75)).drew) (fun k=>(X+2<=k)/\some k≠(Value.slice A4 (N+1) c4).ownBlock) 3 [tk.gv] [.int .i64 tk.kind,.string (bs tk.text),.slice At tk.bK.length ct]):=by
          refine lp (ke ?_) rfl;have jL:Below w5.heap.size w5 (((w5.alloc (.cells #[.int .i64 tk.kind,.string (bs tk.text),.slice At tk.bK.length ct] 75)).alloc (.cells #[.int .i64 tk.kind,.string (bs tk.text),.slice At tk.bK.length ct] 75)).drew):=((cU _ _).alloc (by rw[size_alloc];omega) _).drew;have zX:=SN.o.2;refine GR.mono (fun x hx=>?_) (fun x _ bW=>jL.block x bW) _ _ tV.o;have hx:w4.heap.size<=x:=hx;refine⟨show X+2<=x by omega,fun e=>?_⟩;have:=(tU.o x e.symm).2;omega
         have HL:Hy (((o++[bS ((L sb).take i)]).map bG.gv).length+[tk.gv].length<=maxLen/\(((o++[bS ((L sb).take i)]).map bG.gv).length+[tk.gv].length)*48<=140737488355328/\
          X+2<=(((w5.alloc (.cells #[.int .i64 tk.kind,.string (bs tk.text),.slice At tk.bK.length ct] 75)).alloc (.cells #[.int .i64 tk.kind,.string (bs tk.text),.slice At tk.bK.length ct] 75)).drew).heap.size/\(N+1)+1=((o++[bS ((L sb).take i)]).map bG.gv++[tk.gv]).length):=by
          have PR:=NH.o;have MW:(((w5.alloc (.cells #[.int .i64 tk.kind,.string (bs tk.text),.slice At tk.bK.length ct] 75)).alloc (.cells #[.int .i64 tk.kind,.string (bs tk.text),.slice At tk.bK.length ct] 75)).drew).heap.size=w5.heap.size+1+1:=by
           show((w5.alloc (.cells #[.int .i64 tk.kind,.string (bs tk.text),.slice At tk.bK.length ct] 75)).alloc (.cells #[.int .i64 tk.kind,.string (bs tk.text),.slice At tk.bK.length ct] 75)).heap.size=_
           rw[size_alloc,size_alloc]
          refine⟨?_,?_,?_,?_⟩
          ·simp[maxLen]at PR|-;omega
          ·simp at PR|-;omega
          ·rw[MW];omega
          ·simp at PR|-;omega
         refine qN (by rfl) _ _ _ (by rfl) nI rfl KI.o (by rfl) (by rfl) HC.o HG.o HL.o.1 HL.o.2.1 HL.o.2.2.1 HL.o.2.2.2 ?_;intro A7 c7 w7 bZ cO fG;have V8:gj w w7 X rest b' (.slice A7 ((N+1)+1) c7) (o++[bS ((L sb).take i)]++[tk]):=(qs.step (((cU _ (.cells #[.int .i64 tk.kind,.string (bs tk.text),.slice At tk.bK.length ct] 75)).alloc (by rw[size_alloc];omega) (.cells #[.int .i64 tk.kind,.string (bs tk.text),.slice At tk.bK.length ct] 75)).drew)).push cO (by rw[aK];exact bZ);refine bP _ _ ?_;clear bP K_;clear q0 q1 q2 z0 z1 z2 z3 t0 t1 t2 bZ cO fG qs PC;refine wpAny_ready (rs:=[7]) (by kernel_rfl) (by simp) ?_;refine AllReady.cons rfl (fun K_ bP=>?_) AllReady.nil;go_simp;refine bP _ _ ?_;clear bP K_;refine wpAny_ready (rs:=[8]) (by kernel_rfl) (by simp) ?_;refine AllReady.cons rfl (fun K_ bP=>?_) AllReady.nil;go_simp;refine bP _ _ ?_;clear bP K_;refine wpAny_done (by kernel_rfl) ?_ _;go_wp2_with fail;have PR:=NH.o;have hgo:((sb.extract i sb.size).extract nn (sb.size-i)).size<sb.size:=by
          rw[aA];omega
         refine⟨⟨n,b',(sb.extract i sb.size).extract nn (sb.size-i),o++[bS ((L sb).take i)]++[tk],rfl,V8,by omega,?_,?_⟩,hgo⟩
         ·rw[aA,af];simp only[ak,aD];omega
         ·rw[Hy,xW.o,rE (sb.extract i sb.size) nn (sb.size-i) (by rw[HZ.o];exact dv _)]
       ·have jL:(bad !=0)=true:=by rw[aQ];exact lM
        have tP:Hy (F=(⟨[],false⟩,[],bad)):=qO.o.trans (ae lM);clear qO lM;go_wp2_with fail;obtain⟨r0,r1,r2⟩:=qs.ret (.string (bs [])) (.bool false);refine ag (iB rfl rfl rfl (r0.alloc (.cells #[.int .i64 tk.kind,.string (bs tk.text),.slice At tk.bK.length ct] 75))) rfl ⟨.slice none 0 0,by rw[tP.o];rfl,?_,r2.alloc r2.size _⟩;rw[tP.o];exact b8.nil _ _ _ _ _
theorem GD{w:World}{F:Nat->Prop}{sz:Nat}{l:List GV}{v:Value}(h:GR w F (.row sz l) [v]):
 ∃A c xs,v=.slice A l.length c/\mR w F A xs/\fW w F sz l xs:=by
 obtain⟨A,c,xs,h1,h2,h3,h4,h5,h6⟩:=jR.1 h;exact⟨A,c,xs,by simpa using h1,h5,h6⟩
theorem sI:∀(n:Nat) (b:Bool) (s:Bt) (o:List bG),
 (cC n b s o).2.1.length+(cC n b s o).1.rest.length<=o.length+s.length/\
 bT (cC n b s o).2.1+(cC n b s o).1.rest.length<=bT o+s.length
 |0,b,s,o=>by simp[cC,bT]
 |n+1,b,s,o=>by
  have key:∀(o':List bG) (s':Bt) (m:Bt),o'.length+s'.length<=o.length+s.length->bT o'+s'.length<=bT o+s.length->
   (fun z:gG × List bG × Int=>z.2.1.length+z.1.rest.length<=o.length+s.length/\bT z.2.1+z.1.rest.length<=bT o+s.length)
    (if s'.length<m.length\/m=[]then(⟨s',b⟩,o',0)
     else if m=ox\/m=tB then cC n (decide (m=ox)) (s'.drop m.length) o'
     else if(fe s' m).2.2≠0 then(⟨[],false⟩,[],(fe s' m).2.2)
     else if(fe s' m).2.1=0 then(⟨s',b⟩,o',0)
     else cC n b (s'.drop (fe s' m).2.1) (o'++[(fe s' m).1])):=by
   intro o' s' m h1 h2;split
   ·exact⟨h1,h2⟩
   ·split
    ·have ih:=sI n (decide (m=ox)) (s'.drop m.length) o';simp only[aj]at ih;exact⟨by have:=ih.1;omega,by have:=ih.2;omega⟩
    ·split
     ·exact⟨by simp,by simp[bT]⟩
     ·split
      ·exact⟨h1,h2⟩
      ·rename_i db;have ih:=sI n b (s'.drop (fe s' m).2.1) (o'++[(fe s' m).1]);obtain⟨t1,t2,-⟩:=sH (s:=s') (m:=m);rw[dt,af,aj]at ih;have e:bT [(fe s' m).1]=(fe s' m).1.text.length:=by simp[bT]
       simp only[ak,aD]at ih;exact⟨by have:=ih.1;omega,by have:=ih.2;omega⟩
  rw[cC];refine key _ _ _ ?_ ?_
  ·split
   ·rw[af,aj];simp only[ak,aD];have:=(nW b s).2;omega
   ·rw[aj];omega
  ·split
   ·rw[dt,aj];have e:bT [bS (s.take (bX b s).2)]=min (bX b s).2 s.length:=by simp[bT,bS]
    have:=(nW b s).2;omega
   ·rw[aj];omega
theorem vL(x:gG)(s:Bt):(dC x s).2.1.length+(dC x s).1.rest.length<=x.rest.length+s.length/\
 bT (dC x s).2.1+(dC x s).1.rest.length<=x.rest.length+s.length:=by
 unfold dC;split
 ·have h:=sI ((x.rest++s).length+1) x.inside (x.rest++s) [];have e:bT []=0:=rfl;have e2:(x.rest++s).length=x.rest.length+s.length:=by simp
  rw[e,aD]at h;generalize cC ((x.rest++s).length+1) x.inside (x.rest++s) []=z at*;exact⟨by have:=h.1;omega,by have:=h.2;omega⟩
 ·exact⟨by simp,by simp[bT]⟩
theorem KM(x:gG):(ig x).1.length<=1/\bT (ig x).1<=x.rest.length:=by
 unfold ig;split
 ·split
  ·exact⟨by simp,by simp[bT]⟩
  ·split
   ·exact⟨by simp,by simp[bT]⟩
   ·exact⟨by simp,by simp[bT,bS]⟩
 ·exact⟨by simp,by simp[bT]⟩
def WI(w:World)(r:List bG × Int)(e:Ending)(w':World):Prop:=
 ∃v,e=.returned (.tuple #[v,.int .i64 r.2])/\GR w' (fun g=>w.heap.size<=g) (.row 3 (r.1.map bG.gv)) [v]/\Below w.heap.size w w'
theorem QR(s:ByteArray)(w:World)(hs:s.size<=1000000):
 Calls prog 36 #[.string s] w (WI w (gH (L s))):=by
 have HAF:Hy (gH (L s)=if(dC ⟨[],false⟩ (L s)).2.2≠0 then([],(dC ⟨[],false⟩ (L s)).2.2)
  else if(ig (dC ⟨[],false⟩ (L s)).1).2≠0 then([],(ig (dC ⟨[],false⟩ (L s)).1).2)
  else(eV ((dC ⟨[],false⟩ (L s)).2.1++(ig (dC ⟨[],false⟩ (L s)).1).1),0)):=rfl
 have hfl:=vL ⟨[],false⟩ (L s);simp only[aD]at hfl;go_enter func36,ntmps36;go_wp2_with fail;refine(ND ⟨#[]⟩ s false w (by show 0+s.size<=1000000;omega)).mono ?_;rw[show L (⟨#[]⟩:ByteArray)=[]from rfl];generalize dC ⟨[],false⟩ (L s)=f at*;obtain⟨x,uw,err⟩:=f;simp only at HAF hfl;have tJ:=KM x;rintro e w1 ⟨v,rfl,bZ,dG⟩;obtain⟨xr,xi⟩:=x;simp only at bZ hfl tJ;obtain⟨A,c,rfl⟩:=bZ.form;rw[ah]at*;have FA:=bL.new w1 53 #[.string (bs xr),.bool xi];have c0:=FA.cell 0;have c1:=FA.cell 1;have QS:=dG.alloc dG.size (.cells #[.string (bs xr),.bool xi] 53);have WJ:=bD (bZ.below (cU _ (.cells #[.string (bs xr),.bool xi] 53)));have wm:=size_alloc w1 (.cells #[.string (bs xr),.bool xi] 53);have aC7:=dG.size;clear bZ dG;have mC:=cm s;have bW:=@WJ.o.lt;by_cases QT:err=0
 ·have KN:Hy (gH (L s)=if(ig ⟨xr,xi⟩).2≠0 then([],(ig ⟨xr,xi⟩).2)else(eV (uw++(ig ⟨xr,xi⟩).1),0)):=HAF.o.trans (aa (by simpa using QT));have jL:(err !=0)=false:=by rw[QT];rfl
  clear HAF QT;go_wp2_with fail;generalize w1.alloc (.cells #[.string (bs xr),.bool xi] 53)=w2 at*;refine(QQ (bs xr) xi w2 (by rw[bJ];omega)).mono ?_;rw[eB];generalize ig ⟨xr,xi⟩=en at*;obtain⟨et,ee⟩:=en;simp only at tJ KN;rintro e w3 ⟨v2,rfl,cO,fm⟩;have Yr:=QS.trans (fm.mono (by omega));by_cases hee:ee=0
  ·have TD:Hy (gH (L s)=(eV (uw++et),0)):=KN.o.trans (aa (by simpa using hee));have cu:(ee !=0)=false:=by rw[hee];rfl
   clear KN hee;obtain⟨A2,c2,xs,rfl,tC,TE⟩:=GD cO;rw[ah]at*;have KI:=bD (WJ.o.below fm);have HC:=bD (tC.mono (w':=w3) (F':=fun _=>True) (fun _ _=>trivial) (fun _ _ _=>rfl));have HG:Hy (fW w3 (fun k=>(w.heap.size<=k)/\some k≠(Value.slice A uw.length c).ownBlock) 3 (et.map bG.gv) xs):=by
    refine TE.dY fun k hk=>⟨by omega,fun e=>?_⟩;have:=(WJ.o.lt k e.symm).2;omega
   have HL:Hy ((uw.map bG.gv).length+(et.map bG.gv).length<=maxLen/\((uw.map bG.gv).length+(et.map bG.gv).length)*48<=140737488355328/\
    w.heap.size<=w3.heap.size/\uw.length+et.length=(uw.map bG.gv++et.map bG.gv).length):=by
    have:=fm.size;refine⟨?_,?_,?_,?_⟩
    ·simp[maxLen];omega
    ·simp;omega
    ·omega
    ·simp
   have db:Hy (et.length=(et.map bG.gv).length):=by rw[Hy,ah]
   clear WJ cO tC TE;go_wp2_with (at_builtin;go_loud (refine gX rfl _ _ _ rfl nI rfl KI.o db.out rfl HC.o HG.o HL.o.1 HL.o.2.1 HL.o.2.2.1 HL.o.2.2.2 ?_);intro Zw Zx Tf bZ cO fG;have HW:=bD bZ;have tV:=bD cO;clear bZ cO fG);have pa:w3.grownBy Tf (Value.slice A uw.length c).ownBlock:=tV.o;have IQ:=HW.o;rw[<-aK]at IQ;have Ys:Below w.heap.size w Tf:=Yr.trans (bN pa HL.o.2.2.1 (fun k hk=>(KI.o.lt k hk).1));have ib:GR Tf (fun g=>w.heap.size<=g) (.row 3 ((uw++et).map bG.gv)) [.slice Zw (uw.length+et.length) Zx]:=
    IQ.gr (fun _ h=>h) (fun k hk=>(IQ.lt k hk).1)
   clear HW tV KI HC HG HL pa IQ;refine(Db (uw++et) _ _ Tf ib (by rw[af];omega) (by rw[dt];omega)).mono ?_;rintro e Yt ⟨v,rfl,bZ,WK⟩;go_wp2_with fail;go_ret2;have at1:=Ys.size;refine⟨v,by rw[TD.o];rfl,?_,Ys.trans (WK.mono at1)⟩;rw[TD.o];exact bZ.gr (fun k hk=>hk.1) (fun k hk=>by have:=(bZ.lt k hk).1;omega)
  ·have TD:Hy (gH (L s)=([],ee)):=KN.o.trans (ae hee);have cu:(ee !=0)=true:=by rw[aQ];exact hee
   clear KN hee;go_wp2_with fail;go_ret2;refine⟨.slice none 0 0,by rw[TD.o];rfl,?_,Yr⟩;rw[TD.o];exact cS
 ·have KN:Hy (gH (L s)=([],err)):=HAF.o.trans (ae QT);have jL:(err !=0)=true:=by rw[aQ];exact QT
  clear HAF QT;go_wp2_with fail;go_ret2;refine⟨.slice none 0 0,by rw[KN.o];rfl,?_,QS⟩;rw[KN.o];exact cS
end Go.Proofs.YtejafaaihodehaaGreatDoor
