/- Part 28. -/
import Derived.Test.YtejafaaihodehaaGreatDoorZ15
import Derived.Test.YtejafaaihodehaaGreatDoorZ21
import Derived.Test.YtejafaaihodehaaGreatDoorZ27
import Derived.Deep.CutBlock
set_option linter.all false
set_option maxRecDepth 100000
set_option maxHeartbeats 8000000
namespace Go.Proofs.YtejafaaihodehaaGreatDoor
open Go Go.RowKit Tryz
theorem kp{w:World}{X:Nat}{tmps:Array Value}{x0 x1 v n:Value}(h4:tmps[4]?.getD undef=.pointer (some ⟨X+1,0,none⟩))(h5:tmps[5]?.getD undef=v)(h6:tmps[6]?.getD undef=n)
 (B0:bL w (X+1) 53 #[x0,x1]):
 (results f16 tmps).run prog w=.ok (.tuple #[.agg #[x0,x1],v,n]) w:=by
 have a0:=B0.cell 0;have a1:=B0.cell 1;simp[results,results16,go_sem,h4,h5,h6,a0,a1]
theorem ME{w W:World}{X:Nat}{rest:ByteArray}{b:Bool}{v:Value}{o:List bG}(st:gj w W X rest b v o){N:Nat}(hN:N=o.length)(hl:N<=9000000)(t:bG)(tx:ByteArray)(ht:t.text=L tx)(va:Value)
 (vC:GR W (fun g=>X+2<=g/\some g≠v.ownBlock) (.row 2 (t.bK.map bY.gv)) [va]):
 tm (W.alloc (.cells #[.int .i64 t.kind,.string tx,va] 75)) (X+2) 75 3 48 (fun g=>X+2<=g) v (o.map bG.gv) (some ⟨W.heap.size,0,none⟩) 1 [t.gv] [.int .i64 t.kind,.string tx,va] (N+1):=by
 subst hN;have h4:=st.hR.lt;have dG:=cU W (.cells #[.int .i64 t.kind,.string tx,va] 75);have bZ:=st.own.below dG;have hx:GR (W.alloc (.cells #[.int .i64 t.kind,.string tx,va] 75)) (fun k=>(fun g=>X+2<=g) k/\some k≠v.ownBlock) t.gv [.int .i64 t.kind,.string tx,va]:=by
  have h:=ke (k:=t.kind) (t:=t.text) (vC.below dG);rw[ht,qo]at h;rw[bG.gv,ht];exact h
 have key:=tm.sE (bytes:=48) (size:=3) bZ (bL.new W 75 #[.int .i64 t.kind,.string tx,va]) hx rfl (by rw[ah];omega) (by omega) (by rw[size_alloc];omega);rw[ah]at key;exact key
theorem wZ{w W:World}{X:Nat}{rest:ByteArray}{b:Bool}{v:Value}{o:List bG}(st:gj w W X rest b v o){N:Nat}(hN:N=o.length)(hl:N<=9000000)(tx:ByteArray):
 tm (W.alloc (.cells #[.int .i64 0,.string tx,.slice none 0 0] 75)) (X+2) 75 3 48 (fun g=>X+2<=g) v (o.map bG.gv) (some ⟨W.heap.size,0,none⟩) 1 [(bS (L tx)).gv] [.int .i64 0,.string tx,.slice none 0 0] (N+1):=
 ME st hN hl (bS (L tx)) tx rfl (.slice none 0 0) cS
theorem zy{o:List bG}{s:ByteArray}{i:Nat}(h:0<i):ek o (L s) i=o++[bS (L (s.extract 0 i))]:=by
 unfold ek;rw[ae h,dX,bm]
theorem vz{go:Bool->Bt->List bG->gG × List bG × Int}{b:Bool}{s m:Bt}{out:List bG}(h:s.length<m.length\/m=[]):fk go b s m out=(⟨s,b⟩,out,0):=by
 unfold fk;rw[ae h]
theorem gj.len{w wr:World}{X:Nat}{rest:ByteArray}{b:Bool}{A:Option Addr}{N c:Nat}{o:List bG}(h:gj w wr X rest b (.slice A N c) o):N=o.length:=by
 obtain⟨A',c',e⟩:=h.own.form;rw[ah]at e;injection e
theorem BW(rest s:ByteArray)(b:Bool)(w:World)(lQ:rest.size+s.size<=4000000):
 Calls prog 16 #[.agg #[.string rest,.bool b],.string s] w (KK w (dC ⟨L rest,b⟩ (L s))):=by
 obtain⟨X,hX⟩:∃X,X=w.heap.size:=⟨_,rfl⟩;have xB:=bL.new w 53 #[.string rest,.bool b];rw[<-hX]at xB;have yi:=size_alloc w (.cells #[.string rest,.bool b] 53);have rB:=bL.new (w.alloc (.cells #[.string rest,.bool b] 53)) 53 #[.string (bs []),.bool false];rw[yi,<-hX]at rB;have st:gj w ((w.alloc (.cells #[.string rest,.bool b] 53)).alloc (.cells #[.string ⟨#[]⟩,.bool false] 53)) X rest b (.slice none 0 0) []:=
  ⟨xB.alloc _,rB,b8.nil _ _ _ _ _,(cU _ _).alloc (by rw[yi];omega) _,hX⟩
 clear yi xB rB;have c0:=st.hX.cell 0;have c1:=st.hX.cell 1;have hXs:w.heap.size=X:=hX.symm;clear hX;go_enter func16,ntmps16;go_wp2_with fail;generalize(w.alloc (.cells #[.string rest,.bool b] 53)).alloc (.cells #[.string ⟨#[]⟩,.bool false] 53)=w1 at*;clear c0 c1;refine(zw rest b _ (by omega)).mono ?_;rintro e w2 ⟨rfl,cu⟩;have GC:=st.step cu;clear st cu;cases J5:jo ⟨L rest,b⟩with
 |false=>
  have HF:Hy (dC ⟨L rest,b⟩ (L s)=(⟨[],false⟩,[],1)):=by rw[Hy,dC,aa (by rw[J5];simp)]
  clear J5;have q0:=GC.hR.cell 0;have q1:=GC.hR.cell 1;have z0:=GC.hR.frozen 0;have z1:=GC.hR.frozen 1;go_wp2_with fail;obtain⟨r0,r1,r2⟩:=GC.ret (.string (bs [])) (.bool false);refine ag (kp rfl rfl rfl r0) rfl ⟨.slice none 0 0,by rw[HF.o];rfl,?_,r2⟩;rw[HF.o];exact r1
 |true=>
  have HF:Hy (dC ⟨L rest,b⟩ (L s)=cC ((L rest++L s).length+1) b (L rest++L s) []):=by rw[Hy,dC,ae J5]
  clear J5;have q0:=GC.hX.cell 0;have q1:=GC.hX.cell 1;have hss:rest.size+s.size<=4000000:=lQ;go_wp2_with fail;have V6:Hy (dC ⟨L rest,b⟩ (L s)=cC ((rest++s).size+1) b (L (rest++s)) []):=HF.o.trans (by rw[ow,cm,ow]);have wm:(rest++s).size<=4000000:=by rw[aP];omega
  generalize rest++s=s0 at*;generalize dC ⟨L rest,b⟩ (L s)=F at*;clear HF q0 q1;go_loopw [7,8,9] (fun s1 i1 v1 wr=>∃(n:Nat) (b':Bool) (sb:ByteArray) (o:List bG),s1=.string sb/\i1=.bool b'/\Hy (gj w wr X rest b v1 o)/\sb.size<n/\o.length+sb.size<=4000000/\Hy (F=cC n b' (L sb) o))
   (fun s1 _ _ _=>Tz s1)
  case atStart=>
   have ti:=GC.step (cU _ (.cells #[] 75));have hl:=GC.hR.lt;exact⟨s0.size+1,b,s0,[],rfl,rfl,{ti with own:=⟨[],World.ownsRow_lit w2 #[] 0 (by omega) (by simp[maxLen]) (by simp),jt.2 rfl⟩},by omega,by simpa using wm,V6⟩
  case round=>
   obtain⟨n,b',sb,o,rfl,rfl,ST,hn,Np,HG⟩:=hrel;clear GC V6 wm;obtain⟨n,rfl⟩:∃n',n=n'+1:=⟨n-1,by omega⟩;rw[fL]at HG;obtain⟨Av,cv,hve⟩:=ST.o.own.form;subst hve;rw[ah]at ST|-;obtain⟨N,hN⟩:∃N,N=o.length:=⟨_,rfl⟩;rw[<-hN]at ST Np|-;have HN:=bD hN;clear hN;have HOB:=bD Np;have HNN:=bD hn;cases hse:sb.toList.isEmpty with
   |true=>
    have Yy:L sb=[]:=by rw[cw]at hse;exact List.isEmpty_iff.1 hse
    have Cq:Hy (F=(⟨[],b'⟩,o,0)):=by
     rw[Hy,HG.o,Yy];unfold fk ek;simp[bX]
    clear HG Yy;have z0:=ST.o.hR.cell 0;have z1:=ST.o.hR.cell 1;have z2:=ST.o.hR.frozen 0;have z3:=ST.o.hR.frozen 1;go_wp2_with fail;obtain⟨r0,r1,r2⟩:=ST.o.ret (.string (bs [])) (.bool b');refine ag (kp rfl rfl rfl r0) rfl ⟨.slice Av N cv,by rw[Cq.o];rfl,?_,r2⟩;rw[Cq.o];exact r1
   |false=>
    have ax7:0<sb.size:=by
     rw[cw]at hse;rw[cm];exact List.length_pos_iff.2 (fun h=>by rw[h]at hse;cases hse)
    have ac1:=Vb b' (L sb);rw[<-cm]at ac1;have XO:=AQ b' (L sb);rw[<-cm]at XO;have HMA:=bD (fun j=>Pe (b:=b') (s:=L sb) (j:=j));have Zb:=bD (qD b' (L sb));generalize bX b' (L sb)=mi at*;obtain⟨m,I⟩:=mi;simp only at HG ac1 XO HMA Zb;have ao3:=bD XO;have HIL:=bD ac1;have Tu:=bD ax7;have Fy:(bs m).toList=m:=bQ m;have YN:(bs []).toList=[]:=bQ [];have hsm:(bs m).size=m.length:=bJ m;clear XO;go_wp2_with fail;go_loopw [10] (fun iv wx=>∃j:Nat,j<=I/\iv=.int .i64 j/\Hy (gj w wx X rest b (.slice Av N cv) o))
     (fun iv _=>I-(intOf iv).toNat)
    case atStart=>exact⟨0,ax _,rfl,ST.o⟩
    case round=>
     clear ST;obtain⟨j,hj,rfl,ST⟩:=hrel;have hj0:(0:Int)<=(j:Int):=by omega
     have hj1:(j:Int)<=(sb.size:Int):=by omega
     by_cases hjs:j<sb.size
     ·have pD:Hy (eJ b' (L (sb.extract j sb.size))=if j=I then m else[]):=by
       rw[Hy,rE sb j sb.size (dv _)];exact HMA.o j hj
      go_wp2_with fail;refine(qM (sb.extract j sb.size) b' _).mono ?_;rw[pD.o];rintro e w4 ⟨rfl,eY⟩;have nA:=bD (ST.o.step eY);clear eY ST pD;by_cases hjI:j=I
      ·have tI:m≠[]:=fun h=>by have:=ao3.o.1 h;omega
       have Yp:m.isEmpty=false:=by simpa using tI
       have VS:=bD tI;rw[ae hjI];subst hjI;clear tI;go_upto_if 42 with(fail)
       go_cut [7,9]from 42 to 52 (fun s1 v1 wx=>∃(oK:ByteArray) (A2:Option Addr) (N2 c2:Nat),s1=.string oK/\v1=.slice A2 N2 c2/\Hy (gj w wx X rest b (.slice A2 N2 c2) (ek o (L sb) j))/\Hy (L oK=(L sb).drop j)/\Hy (N2+oK.size<=N+sb.size))
       case first=>
        by_cases hjz:j=0
        ·subst hjz;go_wp2_with fail;go_meet
         case rel=>
          have e:ek o (L sb) 0=o:=by simp[ek]
          refine⟨sb,Av,N,cv,rfl,rfl,?_,?_,dv _⟩
          ·rw[e];exact nA.o
          ·rw[Hy,bm]
        ·have HA:=bD (wZ nA.o HN.o (by have:=HOB.o;omega) (sb.extract 0 j));have si:=bD (nA.o.step (cU _ (.cells #[.int .i64 0,.string (sb.extract 0 j),.slice none 0 0] 75)));have hjp:(0:Int)<(j:Int):=by omega
         have HJP:Hy (0<j):=by rw[Hy];omega
         clear HG HMA Zb hjz;go_wp2_with (at_builtin;go_loud (refine HA.o.plain rfl _ _ _ rfl nI rfl rfl ?_);intro A9 c9 w9 bZ cO fG;have Gi:Hy (gj w w9 X rest b (.slice A9 (N+1) c9) (o++[bS (L (sb.extract 0 j))])):=si.o.push cO (by rw[aK];exact bZ);clear bZ cO fG);go_meet
         case rel=>
          refine⟨sb.extract j sb.size,A9,N+1,c9,rfl,rfl,?_,rE sb j sb.size (dv _),?_⟩
          ·rw[zy HJP.o];exact Gi.o
          ·rw[Hy,aA];have:=HJP.o;have:=HIL.o;omega
       case rest=>
        obtain⟨oK,A2,N2,c2,rfl,rfl,fZ,Gw,uj⟩:=hcut;have yc:=bD fZ.o.len;have Cf:Hy (eJ b' (L oK)=m):=by rw[Hy,Gw.o,HMA.o j (dv _),ae rfl]
        have HMH:=bD (zv (b:=b') (s:=L oK));rw[Cf.o]at HMH;rw[<-Gw.o]at HG;have MZ:Hy (oK.size<=sb.size):=by
         have h:=congrArg List.length Gw.o;rw[aj,<-cm,<-cm]at h;rw[Hy];omega
        have vK:(L oK).length=oK.size:=(cm oK).symm;generalize ek o (L sb) j=o2 at*;clear HMA Gw nA hj0 hj1;go_wp2_with fail;refine(qM oK b' _).mono ?_;rw[Cf.o];rintro e w5 ⟨rfl,kM⟩;have fV:=bD (fZ.o.step kM);clear kM fZ;by_cases KL:oK.size<m.length
        ·have Cq:Hy (F=(⟨L oK,b'⟩,o2,0)):=by
          rw[Hy,HG.o];exact vz (.inl (by rw[vK];exact KL))
         clear HG;have z0:=fV.o.hR.cell 0;have z1:=fV.o.hR.cell 1;have z2:=fV.o.hR.frozen 0;have z3:=fV.o.hR.frozen 1;go_wp2_with fail;obtain⟨r0,r1,r2⟩:=fV.o.ret (.string oK) (.bool b');refine ag (kp rfl rfl rfl r0) rfl ⟨_,by rw[Cq.o,qo];rfl,?_,r2⟩;rw[Cq.o];exact r1
        ·have NF:¬((L oK).length<m.length\/m=[]):=by
          rw[vK];exact fun h=>h.elim KL VS.o
         unfold fk at HG;rw[aa NF]at HG;have Vl:lF (L oK) m=true:=BV (HMH.o VS.o) (by rw[vK];omega);have HBG:=bD Vl;have Zc:Hy (m.length<=oK.size):=by rw[Hy];omega
         have CQ:0<m.length:=List.length_pos_iff.2 VS.o;have XP:=bD CQ;have ax8:(0:Int)<=(m.length:Int):=by omega
         have ax9:(m.length:Int)<=(oK.size:Int):=by omega
         clear NF Vl HMH CQ;by_cases hB:m=tB
         ·rw[ae (.inr hB),aT (by rw[hB];decide)]at HG;have dG:(m==[45,45,62])=true:=by rw[hB];rfl
          clear hB;go_wp2_with fail;go_roundw
          case rel=>
           refine⟨n,false,oK.extract m.length oK.size,o2,rfl,rfl,fV.o,?_,?_,?_⟩
           ·rw[aA];have:=XP.o;have:=MZ.o;have:=HNN.o;have:=Zc.o;omega
           ·rw[aA];have:=uj.o;have:=HOB.o;have:=yc.o;omega
           ·rw[Hy,HG.o,rE oK m.length oK.size (dv _)]
          case measure=>
           show(oK.extract m.length oK.size).size<sb.size
           rw[aA];have:=XP.o;have:=MZ.o;have:=Zc.o;omega
         ·have dG:(m==[45,45,62])=false:=ai.2 hB;by_cases tX:m=ox
          ·rw[ae (.inl tX),aS tX]at HG;have cu:(m==[60,33,45,45,101,115,105])=true:=by rw[tX];rfl
           clear hB tX;go_wp2_with fail;go_roundw
           case rel=>
            refine⟨n,true,oK.extract m.length oK.size,o2,rfl,rfl,fV.o,?_,?_,?_⟩
            ·rw[aA];have:=XP.o;have:=MZ.o;have:=HNN.o;have:=Zc.o;omega
            ·rw[aA];have:=uj.o;have:=HOB.o;have:=yc.o;omega
            ·rw[Hy,HG.o,rE oK m.length oK.size (dv _)]
           case measure=>
            show(oK.extract m.length oK.size).size<sb.size
            rw[aA];have:=XP.o;have:=MZ.o;have:=Zc.o;omega
          ·have cu:(m==[60,33,45,45,101,115,105])=false:=ai.2 tX;rw[aa (fun h=>h.elim tX hB)]at HG;have hmo:m=fM\/m=ew:=by
            rcases Zb.o with h|h|h|h|h
            ·exact aX h VS.o
            ·exact .inl h
            ·exact .inr h
            ·exact aX h tX
            ·exact aX h hB
           have h5:5<=oK.size:=by
            have:=Zc.o;rcases hmo with h|h
            ·rw[h]at this;have e:fM.length=5:=rfl;omega
            ·rw[h]at this;have e:ew.length=6:=rfl;omega
           have HTC:=bD (BU oK w5 (by have:=MZ.o;omega) h5);have htm:ml m (L oK) 0=jm (lF (L oK) ew) (L oK):=Ms hmo HBG.o;unfold fe at HG;rw[htm]at HG;have HTT:Hy (∀t r k,jm (lF (L oK) ew) (L oK)=.ok t r k->k<=oK.size/\0<k):=fun t r k h=>by
            rw[<-htm]at h;have h2:=xC h;rw[vK]at h2;omega
           generalize jm (lF (L oK) ew) (L oK)=FT at*;clear hB tX hmo h5 HBG Zb htm;go_wp2_with fail;refine HTC.o.mono ?_;rintro e w6 hp;obtain⟨mo,kd,nm,A,nn,c,a,z,sh,rfl,hi,ht6⟩:=hp;have gd:=bD (fV.o.step mo);have hT:=(bL.new w6 75 #[.int .i64 kd,.string nm,.slice A nn c]).alloc (.cells #[.string oK,.int .i64 a,.int .i64 z,.bool sh] 77);have hR:=bL.new (w6.alloc (.cells #[.int .i64 kd,.string nm,.slice A nn c] 75)) 77 #[.string oK,.int .i64 a,.int .i64 z,.bool sh];rw[size_alloc]at hR;have Vm:=(cU w6 (.cells #[.int .i64 kd,.string nm,.slice A nn c] 75)).alloc (by rw[size_alloc];omega) (.cells #[.string oK,.int .i64 a,.int .i64 z,.bool sh] 77);have jI:=bD (gd.o.step Vm);have xy:Hy (X+2<=w5.heap.size/\w5.heap.size<=w6.heap.size):=⟨by have:=fV.o.hR.lt;omega,mo.size⟩;have tU:Hy (∀k,(Value.slice A2 N2 c2).ownBlock=some k->X+2<=k/\k<w5.heap.size):=fV.o.own.lt;obtain⟨t0,t1,t2⟩:=nw hT;obtain⟨⟨d0,d1,d2,d3⟩,-,-,-⟩:=sd hR;have HR:=bD hR;clear mo HTC fV hT hR dG cu ax8 ax9;cases FT with
           |short=>
            obtain⟨rfl,rfl⟩:=hi;have Cq:Hy (F=(⟨L oK,b'⟩,o2,0)):=HG.o.trans (by simp);have z0:=jI.o.hR.cell 0;have z1:=jI.o.hR.cell 1;have z2:=jI.o.hR.frozen 0;have z3:=jI.o.hR.frozen 1;clear HG ht6 Vm;go_wp2_with fail;obtain⟨r0,r1,r2⟩:=jI.o.ret (.string oK) (.bool b');refine ag (kp rfl rfl rfl r0) rfl ⟨_,by rw[Cq.o,qo];rfl,?_,r2⟩;rw[Cq.o];exact r1
           |bad y=>
            obtain⟨rfl,hy,rfl⟩:=hi;have Cq:Hy (F=(⟨[],false⟩,[],z)):=HG.o.trans (by simp[hy]);have hyb:(z !=0)=true:=by rw[aQ];exact hy
            have z0:=jI.o.hR.cell 0;have z1:=jI.o.hR.cell 1;have z2:=jI.o.hR.frozen 0;have z3:=jI.o.hR.frozen 1;clear HG ht6 Vm hy;go_wp2_with fail;go_region;go_wp2_with fail;obtain⟨r0,r1,r2⟩:=jI.o.ret (.string (bs [])) (.bool false);refine ag (kp rfl rfl rfl (r0.drewN 1)) rfl ⟨.slice none 0 0,by rw[Cq.o];rfl,?_,r2.drew⟩;rw[Cq.o];exact b8.nil _ _ _ _ _
           |ok t r k=>
            obtain⟨-,rfl,rfl,rfl⟩:=hi;obtain⟨e1,e2,e3⟩:=ht6 t r k rfl;obtain⟨nE,fA⟩:=HTT.o t r k rfl;subst e1;have Cq:Hy (F=cC n b' ((L oK).drop k) (o2++[t])):=HG.o.trans (by simp;omega);have Cn:=bD e2;have HK:=bD (And.intro nE fA);have hA:=(ME jI.o yc.o (by have:=HOB.o;have:=uj.o;omega) t nm e2.symm (.slice A nn c) (GR.mono (fun g hg=>by
             have hg:w5.heap.size<=g:=hg;refine⟨by have:=xy.o;omega,fun e=>?_⟩;have:=(tU.o g e.symm).2;omega) (fun g _ bW=>Vm.block g bW) _ _ e3))
            rw[size_alloc,size_alloc]at hA;have HA:=bD hA;have si:=bD (jI.o.step (cU _ (.cells #[.int .i64 t.kind,.string nm,.slice A nn c] 75)));have HR8:=bD (HR.o.alloc (.cells #[.int .i64 t.kind,.string nm,.slice A nn c] 75));have xh:(0:Int)<=(k:Int):=by omega
            have hk4:(k:Int)<=(oK.size:Int):=by omega
            clear HG ht6 Vm e2 e3 nE fA hA;go_wp2_with (at_builtin;go_loud (refine HA.o.plain rfl _ _ _ rfl nI rfl rfl ?_);intro A9 c9 w9 bZ cO fG;have Gi:Hy (gj w w9 X rest b (.slice A9 (N2+1) c9) (o2++[t])):=si.o.push cO (by rw[aK];exact bZ);have g1:=(HR8.o.grown cO (fun e=>by have:=(tU.o _ e.symm).2;have:=xy.o;omega)).cell 1;clear bZ cO fG);go_roundw
            case rel=>
             refine⟨n,b',oK.extract k oK.size,o2++[t],rfl,rfl,Gi.o,?_,?_,?_⟩
             ·rw[aA];have:=MZ.o;have:=HNN.o;have:=HK.o;omega
             ·rw[aA,af,<-yc.o];have:=uj.o;have:=HOB.o;have:=HK.o;simp;omega
             ·rw[Hy,Cq.o,rE oK k oK.size (dv _)]
            case measure=>
             show(oK.extract k oK.size).size<sb.size
             rw[aA];have:=MZ.o;have:=HK.o;omega
      ·rw[aa hjI];go_wp2_with fail;go_roundw
       case rel=>exact⟨j+1,by omega,by go_num,nA.o⟩
       case measure=>simp[intOf];omega
     ·have hjI:j=I:=by omega
      have tI:m=[]:=ao3.o.2 (by omega);subst hjI;subst tI;have pD:Hy (eJ b' (L (sb.extract j sb.size))=[]):=by
       rw[Hy,rE sb j sb.size (dv _),HMA.o j (dv _),ae rfl]
      have Cq:Hy (F=(⟨(L sb).drop j,b'⟩,o++[bS (L (sb.extract 0 j))],0)):=by
       rw[Hy,HG.o,zy (by have:=Tu.o;omega)];exact vz (.inr rfl)
      have HA:=bD (wZ ST.o HN.o (by have:=HOB.o;omega) (sb.extract 0 j));have si:=bD (ST.o.step (cU _ (.cells #[.int .i64 0,.string (sb.extract 0 j),.slice none 0 0] 75)));have hjp:(0:Int)<(j:Int):=by have:=Tu.o;omega
      clear HG HMA Zb;go_wp2_with (at_builtin;go_loud (refine HA.o.plain rfl _ _ _ rfl nI rfl rfl ?_);intro A9 c9 w9 bZ cO fG;have Gi:Hy (gj w w9 X rest b (.slice A9 (N+1) c9) (o++[bS (L (sb.extract 0 j))])):=si.o.push cO (by rw[aK];exact bZ);clear bZ cO fG);refine(qM (sb.extract j sb.size) b' _).mono ?_;rw[pD.o];rintro e VG ⟨rfl,Vn⟩;have EL:=bD (Gi.o.step Vn);clear Vn Gi si HA ST;have z0:=EL.o.hR.cell 0;have z1:=EL.o.hR.cell 1;have z2:=EL.o.hR.frozen 0;have z3:=EL.o.hR.frozen 1;have tK:(bs []).size=0:=rfl;go_wp2_with fail;obtain⟨r0,r1,r2⟩:=EL.o.ret (.string (sb.extract j sb.size)) (.bool b');refine ag (kp rfl rfl rfl r0) rfl ⟨_,by rw[Cq.o,<-rE sb j sb.size (dv _),qo];rfl,?_,r2⟩;rw[Cq.o];exact r1
theorem zz{W:World}{base:Nat}{G:Nat->Prop}{v:Value}{o:List bG}(own:b8 W base 75 3 G v (o.map bG.gv)){N:Nat}(hN:N=o.length)(hl:N<=9000000)(t:bG)(tx:ByteArray)(ht:t.text=L tx)(va:Value)
 (vC:GR W (fun g=>G g/\some g≠v.ownBlock) (.row 2 (t.bK.map bY.gv)) [va]) (eo:base<=W.heap.size):
 tm (W.alloc (.cells #[.int .i64 t.kind,.string tx,va] 75)) base 75 3 48 G v (o.map bG.gv) (some ⟨W.heap.size,0,none⟩) 1 [t.gv] [.int .i64 t.kind,.string tx,va] (N+1):=by
 subst hN;have dG:=cU W (.cells #[.int .i64 t.kind,.string tx,va] 75);have bZ:=own.below dG;have hx:GR (W.alloc (.cells #[.int .i64 t.kind,.string tx,va] 75)) (fun k=>G k/\some k≠v.ownBlock) t.gv [.int .i64 t.kind,.string tx,va]:=by
  have h:=ke (k:=t.kind) (t:=t.text) (vC.below dG);rw[ht,qo]at h;rw[bG.gv,ht];exact h
 have key:=tm.sE (bytes:=48) (size:=3) bZ (bL.new W 75 #[.int .i64 t.kind,.string tx,va]) hx rfl (by rw[ah];omega) (by omega) (by rw[size_alloc];omega);rw[ah]at key;exact key
theorem zA{W:World}{base:Nat}{G:Nat->Prop}{v:Value}{o:List bG}(own:b8 W base 75 3 G v (o.map bG.gv)){N:Nat}(hN:N=o.length)(hl:N<=9000000)(tx:ByteArray)(eo:base<=W.heap.size):
 tm (W.alloc (.cells #[.int .i64 0,.string tx,.slice none 0 0] 75)) base 75 3 48 G v (o.map bG.gv) (some ⟨W.heap.size,0,none⟩) 1 [(bS (L tx)).gv] [.int .i64 0,.string tx,.slice none 0 0] (N+1):=
 zz own hN hl (bS (L tx)) tx rfl (.slice none 0 0) cS eo
structure EM(w W:World)(G:Nat->Prop)(A:Option Addr)(N c:Nat)(o:List bG):Prop where
 own:b8 W w.heap.size 75 3 G (.slice A N c) (o.map bG.gv)
 below:Below w.heap.size w W
 len:N=o.length
theorem EM.step{w W W':World}{G:Nat->Prop}{A:Option Addr}{N c:Nat}{o:List bG}(h:EM w W G A N c o)(hb:Below W.heap.size W W'):EM w W' G A N c o:=
 ⟨h.own.below hb,h.below.trans (hb.mono h.below.size),h.len⟩
theorem EM.push{w W W':World}{G:Nat->Prop}{A A':Option Addr}{N c c':Nat}{o:List bG}{t:bG}(h:EM w W G A N c o)(hg:W.grownBy W' (Value.slice A N c).ownBlock)(ho:b8 W' w.heap.size 75 3 G (.slice A' (N+1) c') (o.map bG.gv++[t.gv])):
 EM w W' G A' (N+1) c' (o++[t]):=
 ⟨by rw[aK];exact ho,h.below.trans (bN hg h.below.size (fun k hk=>(h.own.lt k hk).1)),by rw[af,<-h.len];rfl⟩
theorem Cu(l:List bG)(k:Nat):bT (l.take k)<=bT l:=by
 have h:=congrArg bT (bt k l);rw[dt]at h;omega
theorem BX(l:List bG)(v:Value)(F:Nat->Prop)(w:World)(hv:GR w F (.row 3 (l.map bG.gv)) [v])(fH:l.length<=4000000)(yw:bT l<=100000000):
 Calls prog 28 #[v] w fun e w'=>(∃v',e=.returned v'/\GR w' (fun g=>(F g/\g<w.heap.size)\/w.heap.size<=g) (.row 3 ((sc l [] []).map bG.gv)) [v'])/\Below w.heap.size w w':=by
 obtain⟨A,c,rfl,zQ,mz,dS⟩:=iG (GR.du _ _ hv);have ub:=bD dS;generalize hR:sc l [] []=R;have Fk:=bD hR;clear dS hv hR;have sN:Hy (EM w (w.alloc (.cells #[] 75)) (fun g=>F g/\g<w.heap.size) (some ⟨w.heap.size,0,none⟩) 0 0 []):=
  ⟨⟨[],World.ownsRow_lit w #[] 0 (dv _) (by simp[maxLen]) (by simp),jt.2 rfl⟩,cU _ _,rfl⟩
 unfold maxLen at mz;have ao4:∀(W:World) (A':Option Addr) (N' c':Nat) (o:List bG),EM w W (fun g=>F g/\g<w.heap.size) A' N' c' o->o=R->
  (∃v',Ending.returned (.slice A' N' c')=.returned v'/\GR W (fun g=>(F g/\g<w.heap.size)\/w.heap.size<=g) (.row 3 (R.map bG.gv)) [v'])/\Below w.heap.size w W:=by
  intro W A' N' c' o st ho;subst ho;exact⟨⟨_,rfl,st.own.gr (fun _ h=>.inl h) (fun k hk=>.inr (st.own.lt k hk).1)⟩,st.below⟩
 have xT:=bD ao4;clear ao4;go_enter func28,ntmps28;go_wp2_with fail;go_loopw [3,4,10] (fun v1 s1 i wr=>∃(k:Nat) (tx:ByteArray) (A':Option Addr) (N' c':Nat) (o:List bG),k<=l.length/\v1=.slice A' N' c'/\s1=.string tx/\i=.int .i64 k/\Hy (EM w wr (fun g=>F g/\g<w.heap.size) A' N' c' o)/\
  Hy (sc (l.drop k) (L tx) o=R)/\N'<=2*k/\Hy (tx.size<=bT (l.take k)))
  (fun _ _ i _=>l.length-(intOf i).toNat)
 case atStart=>exact⟨0,⟨#[]⟩,_,0,0,[],ax _,rfl,rfl,rfl,sN.o,Fk.o,ax _,ax _⟩
 case round=>
  clear sN Fk;obtain⟨k,tx,A',N',c',o,hk,rfl,rfl,rfl,ST,HJ,hn,HX⟩:=hrel;have htx:tx.size<=100000000:=au HX.o (au (Cu l k) yw);by_cases bW:k<l.length
  ·obtain⟨bb,off,rfl,⟨hF,mP⟩,zu⟩:=ub.o (by rintro rfl;simp at bW);obtain⟨va,k0,k1,k2,vC⟩:=zu k bW;have e0:=(ST.o.below.cell (p:=⟨bb,off+k*3,none⟩) mP).trans k0;have e1:=(ST.o.below.cell (p:=⟨bb,off+k*3+1,none⟩) mP).trans k1;have e2:=(ST.o.below.cell (p:=⟨bb,off+k*3+2,none⟩) mP).trans k2;have HD:Hy (l.drop k=l[k]::l.drop (k+1)):=aE bW;rw[HD.o]at HJ;have HTS:=bD (sG l k bW);have mq:Hy (bT (l.take (k+1))=bT (l.take k)+l[k].text.length):=by
    rw[Hy,aC bW,dt];simp[bT]
   obtain⟨Av,nv,cv,hvv⟩:∃Av nv cv,va=.slice Av nv cv:=by
    obtain⟨Aa,ca,xs,h,_⟩:=jR.1 vC;injection h with h _
    exact⟨_,_,_,h⟩
   subst hvv;have SM:=bD vC;clear zu vC k0 k1 k2 HD;generalize l[k]=t at*;have fV:=bD (ST.o.step (cU _ (.cells #[.int .i64 t.kind,.string (bs t.text),.slice Av nv cv] 75)));have hT:=bL.new wr 75 #[.int .i64 t.kind,.string (bs t.text),.slice Av nv cv];have HT:=bD hT;have ay0:Hy (∀g,(Value.slice A' N' c').ownBlock=some g->w.heap.size<=g/\g<wr.heap.size):=ST.o.own.lt;clear hT ST;unfold sc at HJ;by_cases hkd:t.kind=0
   ·have hkb:(t.kind==0)=true:=by rw[hkd];rfl
    rw[ae hkd]at HJ;have lQ:tx.size+(bs t.text).size<=200000000:=by
     have:=HTS.o;have:=HX.o;rw[bJ];omega
    clear hkd;go_wp2_with fail;go_roundw
    case rel=>
     refine⟨k+1,tx++bs t.text,A',N',c',o,by omega,rfl,rfl,by go_num,fV.o,?_,by omega,?_⟩
     ·rw[Hy,ow,eB];exact HJ.o
     ·have:=HX.o;rw[Hy,aP,bJ,mq.o];omega
    case measure=>simp[intOf];omega
   ·have hkb:(t.kind==0)=false:=by rw[ai];exact hkd
    rw[aa hkd]at HJ;clear hkd;have HN5:=bD fV.o.len;have tU:Hy (∀g,(Value.slice A' N' c').ownBlock=some g->w.heap.size<=g/\g<wr.heap.size):=ay0.o;have WT:Hy (N'<=9000000):=by rw[Hy];omega
    have HVM:Hy (∀(W:World) (v':Value),Below w.heap.size w W->(∀g,v'.ownBlock=some g->w.heap.size<=g)->GR W (fun g=>(F g/\g<w.heap.size)/\some g≠v'.ownBlock) (.row 2 (t.bK.map bY.gv)) [.slice Av nv cv]):=fun W v' hb hv=>
     GR.mono (fun g hg=>⟨hg,fun e=>by have:=hv g e.symm;have:=hg.2;omega⟩) (fun g _ bW=>hb.block g bW) _ _ SM.o
    obtain⟨d0,d1,d2⟩:=nw HT.o;cases EO:tx.toList.isEmpty with
    |true=>
     have HTE:Hy (L tx=[]):=by rw[cw]at EO;exact List.isEmpty_iff.1 EO
     rw[ae HTE.o]at HJ;have hA:=zz fV.o.own HN5.o WT.o t (bs t.text) (eB _).symm (.slice Av nv cv) (HVM.o _ _ fV.o.below (fun g e=>(tU.o g e).1)) fV.o.below.size;rw[size_alloc]at hA;have HA:=bD hA;have si:=bD (fV.o.step (cU _ (.cells #[.int .i64 t.kind,.string (bs t.text),.slice Av nv cv] 75)));clear hA;go_wp2_with (at_builtin;go_loud (refine HA.o.plain rfl _ _ _ rfl nI rfl rfl ?_);intro A9 c9 w9 bZ cO fG;have Gi:=bD (si.o.push cO bZ);clear bZ cO fG);go_roundw
     case rel=>exact⟨k+1,⟨#[]⟩,A9,N'+1,c9,o++[t],by omega,rfl,rfl,by go_num,Gi.o,HJ.o,by omega,ax _⟩
     case measure=>simp[intOf];omega
    |false=>
     have HTE:Hy (¬L tx=[]):=by rw[cw]at EO;exact fun h=>by rw[h]at EO;cases EO
     rw[aa HTE.o]at HJ;have hA:=zA fV.o.own HN5.o WT.o tx fV.o.below.size;rw[size_alloc]at hA;have HA:=bD hA;have si:=bD (fV.o.step (cU _ (.cells #[.int .i64 0,.string tx,.slice none 0 0] 75)));have HT8:=bD (HT.o.alloc (.cells #[.int .i64 0,.string tx,.slice none 0 0] 75));clear hA;go_wp2_with (at_builtin;first|(go_loud (refine HA.o.plain rfl _ _ _ rfl nI rfl rfl ?_);intro A9 c9 w9 bZ cO fG;have Gi:=bD (si.o.push cO bZ);have Za:=HT8.o.grown cO (fun e=>by have:=(tU.o _ e.symm).2;omega);have g0:=Za.cell 0;have g1:=Za.cell 1;have g2:=Za.cell 2;have Ye:=bD (zz Gi.o.own Gi.o.len (by have:=WT.o;omega) t (bs t.text) (eB _).symm (.slice Av nv cv) (HVM.o _ _ Gi.o.below (fun g e=>(Gi.o.own.lt g e).1)) Gi.o.below.size);have ao5:=bD (Gi.o.step (cU _ (.cells #[.int .i64 t.kind,.string (bs t.text),.slice Av nv cv] 75)));clear bZ cO fG Za)|(go_loud (refine Ye.o.plain rfl _ _ _ rfl nI rfl rfl ?_);intro A11 c11 w11 bZ cO fG;have ay1:=bD (ao5.o.push cO bZ);clear bZ cO fG));go_roundw
     case rel=>exact⟨k+1,⟨#[]⟩,A11,N'+1+1,c11,o++[bS (L tx)]++[t],by omega,rfl,rfl,by go_num,ay1.o,HJ.o,by omega,ax _⟩
     case measure=>simp[intOf];omega
  ·have ln:k=l.length:=by omega
   subst ln;rw[bu]at HJ;unfold sc at HJ;cases EO:tx.toList.isEmpty with
   |true=>
    rw[ae (by rw[cw]at EO;exact List.isEmpty_iff.1 EO)]at HJ;go_wp2_with fail;go_ret;exact xT.o _ _ _ _ _ ST.o HJ.o
   |false=>
    rw[aa (by rw[cw]at EO;exact fun h=>by rw[h]at EO;cases EO)]at HJ;have HA:=bD (zA ST.o.own ST.o.len (by omega) tx ST.o.below.size);have si:=bD (ST.o.step (cU _ (.cells #[.int .i64 0,.string tx,.slice none 0 0] 75)));go_wp2_with (at_builtin;go_loud (refine HA.o.plain rfl _ _ _ rfl nI rfl rfl ?_);intro A9 c9 w9 bZ cO fG;have Gi:=bD (si.o.push cO bZ);clear bZ cO fG);go_ret;exact xT.o _ _ _ _ _ Gi.o HJ.o
theorem Ss(x:gG):(ig x).1.length<=1/\bT (ig x).1<=x.rest.length:=by
 unfold ig;split
 ·split
  ·simp[bT]
  ·split
   ·simp[bT]
   ·simp[bT,bS]
 ·simp[bT]
theorem Vo(s:Bt):gH s=if(dC ⟨[],false⟩ s).2.2≠0 then([],(dC ⟨[],false⟩ s).2.2)else if(ig (dC ⟨[],false⟩ s).1).2≠0 then([],(ig (dC ⟨[],false⟩ s).1).2)else(sc ((dC ⟨[],false⟩ s).2.1++(ig (dC ⟨[],false⟩ s).1).1) [] [],0):=by
 rw[Mt]
 ·rfl
 ·intro t ht;rcases List.mem_append.1 ht with h|h
  ·exact oJ _ _ t h
  ·exact s9 _ t h
theorem Pq(s:ByteArray)(w:World)(hs:s.size<=3000000):
 Calls prog 17 #[.string s] w fun e w'=>(∃v,e=.returned (.tuple #[v,.int .i64 (gH (L s)).2])/\GR w' (fun g=>w.heap.size<=g) (.row 3 ((gH (L s)).1.map bG.gv)) [v])/\Below w.heap.size w w':=by
 have HFC:=bD (BW ⟨#[]⟩ s false w (by have e:(⟨#[]⟩:ByteArray).size=0:=rfl;omega));rw[show L ⟨#[]⟩=[]from rfl]at HFC;have Cb:=bD (Vo (L s));have HFL:=bD (vL ⟨[],false⟩ (L s));have j4:=bD (Ss (dC ⟨[],false⟩ (L s)).1);have nF:=bD (cm s);generalize gH (L s)=R at*;generalize dC ⟨[],false⟩ (L s)=f at*;obtain⟨⟨rs,ins⟩,o,ef⟩:=f;simp only at Cb HFL j4;have Is:Hy ((bs rs).size<=3000000):=by
  have:=HFL.o.1;have:=nF.o;rw[Hy,bJ];have h:=HFL.o.1;simp only[aD]at h;omega
 go_enter func17,ntmps17;go_wp2_with fail;refine HFC.o.mono ?_;rintro e w2 hp;obtain⟨v2,rfl,EY,cu⟩:=hp;obtain⟨A2,c2,zF⟩:=b8.form EY;subst zF;rw[ah]at EY|-
 try simp only at EY
 have dm:=bD cu;have hX:=bL.new w2 53 #[.string (bs rs),.bool ins];have gI:=bD (cu.alloc cu.size (.cells #[.string (bs rs),.bool ins] 53));have HO3:=bD (EY.below (cU _ (.cells #[.string (bs rs),.bool ins] 53)));have c0:=hX.cell 0;have c1:=hX.cell 1;obtain⟨N,hN⟩:∃N,N=o.length:=⟨_,rfl⟩;rw[<-hN]at HO3|-;have HN:=bD hN;clear hX cu EY HFC hN;by_cases hef:ef=0
 ·have ao6:(ef !=0)=false:=by rw[hef];rfl
  rw[aa (by simpa using hef)]at Cb;subst hef;clear ao6;go_wp2_with fail;refine(Pp (bs rs) ins _ (by have:=Is.o;omega)).mono ?_;rw[eB];rintro e w4 ⟨⟨v4,rfl,pc⟩,eY⟩;generalize ig ⟨rs,ins⟩=g at*;obtain⟨o4,eg⟩:=g;simp only at Cb j4 pc;obtain⟨A4,c4,rfl,-,-,-⟩:=iG pc;have iW:=bD (gI.o.trans (eY.mono gI.o.size));have HO4:=bD (HO3.o.below eY);have qO:=bD pc;have Fs:Hy (∀k,(Value.slice A2 N c2).ownBlock=some k->w.heap.size<=k/\k<(w2.alloc (.cells #[.string (bs rs),.bool ins] 53)).heap.size):=HO3.o.lt;have ay2:Hy (w.heap.size<=(w2.alloc (.cells #[.string (bs rs),.bool ins] 53)).heap.size):=gI.o.size;clear pc eY c0 c1;by_cases heg:eg=0
  ·have ao7:(eg !=0)=false:=by rw[heg];rfl
   rw[aa (by simpa using heg)]at Cb;subst heg;clear ao7;have fH:o.length+o4.length<=3000001:=by
    have h:=HFL.o.1;have h2:=j4.o.1;have h3:=nF.o;simp only[aD]at h;omega
   have yw:bT (o++o4)<=100000000:=by
    have h:=HFL.o.2;have h2:=j4.o.2;have h3:=nF.o;simp only[aD]at h;rw[dt];omega
   have B8:=bD fH;have ac2:=bD yw;obtain⟨news,hA⟩:=tm.IE (bytes:=48) HO4.o qO.o (aF _ _) (fun k hk _=>⟨by have h:_<=k:=hk;have:=ay2.o;omega,fun e=>by have h:_<=k:=hk;have:=(Fs.o k e.symm).2;omega⟩) (by rw[ah,ah];omega) (by omega) iW.o.size;rw[ah,ah,<-HN.o]at hA;have HA:=bD hA;clear hA fH yw qO HO3;go_wp2_with (at_builtin;go_loud (refine HA.o.plain rfl _ _ _ rfl nI rfl rfl ?_);intro A9 c9 w9 bZ cO fG;have HO9:Hy (b8 w9 w.heap.size 75 3 (fun g=>w.heap.size<=g) (.slice A9 (N+o4.length) c9) ((o++o4).map bG.gv)):=(by rw[Hy,aK];exact bZ);have lP:=bD (iW.o.trans (bN cO iW.o.size (fun k hk=>(Fs.o k hk).1)));clear bZ cO fG);refine(BX (o++o4) _ (fun g=>w.heap.size<=g) w9 (HO9.o.gr (fun _ h=>h) (fun k hk=>(HO9.o.lt k hk).1)) (by rw[af];have:=B8.o;omega) ac2.o).mono ?_;rintro e VG ⟨⟨v10,rfl,Kn⟩,Vn⟩;have FH:=bD (lP.o.trans (Vn.mono lP.o.size));have Zu:Hy (GR VG (fun g=>w.heap.size<=g) (.row 3 ((sc (o++o4) [] []).map bG.gv)) [v10]):=Kn.dY (fun g hg=>hg.elim (fun h=>h.1) (fun h=>by have:=lP.o.size;omega));obtain⟨A10,c10,ay3,-,-,-⟩:=iG Kn;subst ay3;clear Vn Kn;go_wp2_with fail;go_ret2;exact⟨⟨_,by rw[Cb.o];rfl,by rw[Cb.o];exact Zu.o⟩,FH.o⟩
  ·have ao7:(eg !=0)=true:=by rw[aQ];exact heg
   rw[ae (by simpa using heg)]at Cb;clear heg;go_wp2_with fail;go_ret2;exact⟨⟨_,by rw[Cb.o];rfl,by rw[Cb.o];exact cS⟩,iW.o⟩
 ·have ao6:(ef !=0)=true:=by rw[aQ];exact hef
  rw[ae (by simpa using hef)]at Cb;clear hef;go_wp2_with fail;go_ret2;exact⟨⟨_,by rw[Cb.o];rfl,by rw[Cb.o];exact cS⟩,gI.o⟩
theorem MN(l:List bG):∀t∈l.map dE,fJ t:=by
 intro t ht;obtain⟨u,_,rfl⟩:=List.mem_map.1 ht;unfold dE;split
 ·rename_i h;exact .inr h
 ·exact .inl ⟨rfl,rfl⟩
theorem Pt(t:bG):(dE t).text=t.text:=by unfold dE;split<;>rfl
theorem Ie(l:List bG):bT (l.map dE)=bT l:=by
 unfold bT;rw[List.map_map];congr 2;funext t;exact congrArg List.length (Pt t)
theorem Qt{t:bG}:∀{l:List bG},t∈l->t.text.length<=bT l
 |u::l,h=>by
  have e:bT (u::l)=u.text.length+bT l:=by simp[bT]
  rcases List.mem_cons.1 h with rfl|h
  ·omega
  ·have:=Qt h;omega
def Qu(w:World)(r:List Elem × Int)(e:Ending)(w':World):Prop:=
 (∃A c,e=.returned (.tuple #[.slice A r.1.length c,.int .i64 r.2])/\GR w' (fun g=>w.heap.size<=g) (.row 7 (r.1.map Elem.gv)) [.slice A r.1.length c])/\Below w.heap.size w w'
theorem Gm(l:List bG)(v:Value)(F:Nat->Prop)(w:World)(hv:GR w F (.row 3 (l.map bG.gv)) [v])(fH:l.length<=4000000)(yw:bT l<=100000000):
 Calls prog 18 #[v] w (Qu w (qk l)):=by
 obtain⟨A,c,rfl,zQ,mz,dS⟩:=iG (GR.du _ _ hv);have ub:=bD dS;have HBR:Hy (qk l=if(mh (ed l) 16 0 [] 0).2.1≠0 then([],(mh (ed l) 16 0 [] 0).2.1)else((mh (ed l) 16 0 [] 0).1,0)):=rfl;have HJ:Hy (sc (l.map dE) [] []=ed l):=Mt (MN l);have HJL:Hy ((ed l).length<=4000000):=au (vJ _) (by rw[ah];exact fH);have HJT:Hy (∀t∈ed l,t.text.length<=100000000):=fun t ht=>au (Qt ht) (au (rD _) (by rw[Ie];exact yw));have ac2:=bD yw;generalize qk l=BR at*;clear dS hv yw;unfold maxLen at mz;have sN:Hy (EM w (w.alloc (.cells #[] 75)) (fun g=>F g/\g<w.heap.size) (some ⟨w.heap.size,0,none⟩) 0 0 []):=
  ⟨⟨[],World.ownsRow_lit w #[] 0 (dv _) (by simp[maxLen]) (by simp),jt.2 rfl⟩,cU _ _,rfl⟩
 go_enter func18,ntmps18;go_wp2_with fail;go_loopw [4,6,12] (fun v1 _ i wr=>∃(k:Nat) (A':Option Addr) (c':Nat),k<=l.length/\v1=.slice A' k c'/\i=.int .i64 k/\Hy (EM w wr (fun g=>F g/\g<w.heap.size) A' k c' ((l.take k).map dE)))
  (fun _ _ i _=>l.length-(intOf i).toNat)
 case atStart=>exact⟨0,_,0,ax _,rfl,rfl,sN.o⟩
 case round=>
  clear sN;obtain⟨k,A',c',hk,rfl,rfl,ST⟩:=hrel;by_cases bW:k<l.length
  ·obtain⟨bb,off,rfl,⟨hF,mP⟩,zu⟩:=ub.o (by rintro rfl;simp at bW);obtain⟨va,k0,k1,k2,vC⟩:=zu k bW;have e0:=(ST.o.below.cell (p:=⟨bb,off+k*3,none⟩) mP).trans k0;have e1:=(ST.o.below.cell (p:=⟨bb,off+k*3+1,none⟩) mP).trans k1;have e2:=(ST.o.below.cell (p:=⟨bb,off+k*3+2,none⟩) mP).trans k2;obtain⟨Av,cv,rfl,-,-,-⟩:=dV vC;have mq:Hy ((l.take (k+1)).map dE=(l.take k).map dE++[dE l[k]]):=by
    rw[Hy,aC bW,aK];rfl
   have SM:=bD vC;clear zu vC k0 k1 k2;generalize l[k]=t at*;have WT:Hy (k<=9000000):=by rw[Hy];omega
   have tU:Hy (∀g,(Value.slice A' k c').ownBlock=some g->w.heap.size<=g):=fun g hg=>(ST.o.own.lt g hg).1;have HVM:Hy (∀(W:World),Below w.heap.size w W->GR W (fun g=>(F g/\g<w.heap.size)/\some g≠(Value.slice A' k c').ownBlock) (.row 2 (t.bK.map bY.gv)) [.slice Av t.bK.length cv]):=fun W hb=>
    GR.mono (fun g hg=>⟨hg,fun e=>by have:=tU.o g e.symm;have:=hg.2;omega⟩) (fun g _ bW=>hb.block g bW) _ _ SM.o
   by_cases SG:t.kind=1\/t.kind=2\/t.kind=3
   ·have HKT:Hy (dE t=t):=ae SG;have tD:¬t.kind<1:=by omega
    have QH:¬t.kind>3:=by omega
    have fV:=bD (ST.o.step (cU _ (.cells #[.int .i64 t.kind,.string (bs t.text),.slice Av t.bK.length cv] 75)));have hA:=zz fV.o.own fV.o.len WT.o t (bs t.text) (eB _).symm (.slice Av t.bK.length cv) (HVM.o _ fV.o.below) fV.o.below.size;rw[size_alloc]at hA;have HA:=bD hA;have si:=bD (fV.o.step (cU _ (.cells #[.int .i64 t.kind,.string (bs t.text),.slice Av t.bK.length cv] 75)));clear hA SG;go_wp2_with (at_builtin;go_loud (refine HA.o.plain rfl _ _ _ rfl nI rfl rfl ?_);intro A9 c9 w9 bZ cO fG;have Gi:=bD (si.o.push cO bZ);clear bZ cO fG);go_roundw
    case rel=>exact⟨k+1,A9,c9,by omega,rfl,by go_num,by rw[mq.o,HKT.o];exact Gi.o⟩
    case measure=>simp[intOf];omega
   ·have HKT:Hy (dE t=bS t.text):=aa SG;have hl:(t.kind<1)\/¬(t.kind<1)/\t.kind>3:=by omega
    have fV:=bD (ST.o.step (cU _ (.cells #[.int .i64 0,.string (bs t.text),.slice none 0 0] 75)));have hA:=zz fV.o.own fV.o.len WT.o (bS t.text) (bs t.text) (eB _).symm (.slice none 0 0) cS fV.o.below.size;rw[size_alloc]at hA;have HA:Hy (tm ((wr.alloc (.cells #[.int .i64 0,.string (bs t.text),.slice none 0 0] 75)).alloc (.cells #[.int .i64 0,.string (bs t.text),.slice none 0 0] 75)) w.heap.size 75 3 48 (fun g=>F g/\g<w.heap.size) (.slice A' k c') (((l.take k).map dE).map bG.gv) (some ⟨wr.heap.size+1,0,none⟩) 1 [(bS t.text).gv] [.int .i64 0,.string (bs t.text),.slice none 0 0] (k+1)):=hA;have si:=bD (fV.o.step (cU _ (.cells #[.int .i64 0,.string (bs t.text),.slice none 0 0] 75)));clear hA SG;rcases hl with tD|⟨tD,QH⟩
    all_goals
     go_wp2_with (at_builtin;go_loud (refine HA.o.plain rfl _ _ _ rfl nI rfl rfl ?_);intro A9 c9 w9 bZ cO fG;have Gi:=bD (si.o.push cO bZ);clear bZ cO fG);go_roundw
     case rel=>exact⟨k+1,A9,c9,by omega,rfl,by go_num,by rw[mq.o,HKT.o];exact Gi.o⟩
     case measure=>simp[intOf];omega
  ·have ln:k=l.length:=by omega
   subst ln;rw[aM]at ST;go_wp2_with fail;refine(BX (l.map dE) _ (fun g=>F g\/w.heap.size<=g) wr (ST.o.own.gr (fun _ h=>.inl h.1) (fun g hg=>.inr (ST.o.own.lt g hg).1)) (by rw[ah];exact fH) (by rw[Ie];exact ac2.o)).mono ?_;rw[HJ.o];rintro e w2 ⟨⟨v2,rfl,uc⟩,cu⟩;generalize ed l=J at*;obtain⟨A2,c2,zF,-,-,-⟩:=iG uc;subst zF;have dm:=bD (ST.o.below.trans (cu.mono ST.o.below.size));have HBK:=bD (bL.new w2 84 #[.slice A2 J.length c2,.int .i64 0,.int .i64 0]);have pa:=(GR.du _ _ uc).below (cU _ (.cells #[.slice A2 J.length c2,.int .i64 0,.int .i64 0] 84));have hw:=vB w2.heap.size J A2 c2 _ _ HJL.o HJT.o (fun g hg=>by have:=hg.2;omega) pa 16 0 ⟨#[]⟩ 0 _ (dv _) (bR _ _) HBK.o;have HW:=bD hw;have gI:=bD (dm.o.alloc dm.o.size (.cells #[.slice A2 J.length c2,.int .i64 0,.int .i64 0] 84));have HWS:Hy (w.heap.size<=w2.heap.size):=dm.o.size;clear uc cu pa hw HBK ST;rw[show L ⟨#[]⟩=[]from rfl]at HW;generalize mh J 16 0 [] 0=z at*;obtain⟨zl,ze,zi⟩:=z;go_wp2_with fail;refine HW.o.mono ?_;rintro e w4 ⟨⟨A4,c4,rfl,pc⟩,eY,MJ⟩;simp only at pc eY HBR|-;have iW:=bD (gI.o.trans (bN MJ gI.o.size (fun k hk=>by injection hk with hk;have:=HWS.o;omega)));have qO:=bD pc;have c2':=eY.cell 2;clear pc MJ HW eY;by_cases hz:ze=0
   ·have hzb:(ze !=0)=false:=by rw[hz];rfl
    rw[aa (by simpa using hz)]at HBR;clear hz;go_wp2_with fail;go_ret2;have hgw:=qO.o.dY (F':=fun g=>w.heap.size<=g) (fun g hg=>by rw[size_alloc]at hg;have:=HWS.o;omega);exact⟨⟨A4,c4,by rw[HBR.o];rfl,by rw[HBR.o];exact hgw⟩,iW.o⟩
   ·have hzb:(ze !=0)=true:=by rw[aQ];exact hz
    rw[ae (by simpa using hz)]at HBR;clear hz;go_wp2_with (go_quiet (fail));go_ret2;exact⟨⟨none,0,by rw[HBR.o];rfl,by rw[HBR.o];exact cS⟩,below_drewN iW.o _⟩
theorem JX(s:ByteArray)(w:World)(hs:s.size<=3000000):
 Calls prog 9 #[.string s] w (Qu w (xc (L s))):=by
 have SQ:Hy (xc (L s)=if(gH (L s)).2≠0 then([],(gH (L s)).2)else qk (gH (L s)).1):=rfl;have mC:=cm s;have P3:=bD (Bp (L s));go_enter func9,ntmps9;go_wp2_with fail;refine(Pq s w (by omega)).mono ?_;generalize xc (L s)=R at*;generalize gH (L s)=P at*;obtain⟨J,er⟩:=P;rintro e w1 ⟨⟨v,rfl,cO⟩,dG⟩;obtain⟨A1,c1,rfl,-,-,-⟩:=iG cO;have tV:=bD cO;have hJ:=bD dG;clear cO dG;simp only at SQ P3;by_cases he:er=0
 ·have GM:(er !=0)=false:=by rw[he];rfl
  have Dr:Hy (R=qk J):=SQ.o.trans (aa (by simpa using he));clear he SQ;go_wp2_with fail;refine(Gm J _ _ w1 tV.o (by have:=P3.o.1;omega) (by have:=P3.o.2;omega)).mono ?_;generalize qk J=Q at*;obtain⟨ql,qe⟩:=Q;rintro e w2 ⟨⟨A2,c2,rfl,h2⟩,cu⟩;have H2:=bD h2;have dm:=bD cu;clear h2 cu;go_wp2_with fail;go_ret2;exact⟨⟨A2,c2,by rw[Dr.o];rfl,by rw[Dr.o];exact H2.o.dY (fun k hk=>au hJ.o.size hk)⟩,hJ.o.trans (dm.o.mono hJ.o.size)⟩
 ·have GM:(er !=0)=true:=by rw[aQ];exact he
  have Dr:Hy (R=([],er)):=SQ.o.trans (ae he);clear he SQ;go_wp2_with fail;go_ret2;exact⟨⟨none,0,by rw[Dr.o];rfl,by rw[Dr.o];exact cS⟩,hJ.o⟩
end Go.Proofs.YtejafaaihodehaaGreatDoor
