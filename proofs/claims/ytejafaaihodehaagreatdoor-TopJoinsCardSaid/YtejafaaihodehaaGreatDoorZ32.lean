/- Part 32. -/
import Derived.Test.YtejafaaihodehaaGreatDoorZ31
import Derived.Lib.IndexBytes
set_option linter.all false
set_option maxRecDepth 100000
set_option maxHeartbeats 8000000
namespace Go.Proofs.YtejafaaihodehaaGreatDoor
open Go Go.RowKit Tryz
abbrev Ov:=Bt->Bt × Nat
def fb(s:Bt):Nat:=if Lib.index s [36,40]<0 then s.length else(Lib.index s [36,40]).toNat
def mg(rf:Ov)(s out:Bt):Bt × Bt:=
 if s.drop (fb s)=[]then([],out++s.take (fb s))
 else if(rf (s.drop (fb s))).2=0 then((s.drop (fb s)).drop 1,out++s.take (fb s)++(s.drop (fb s)).take 1)
 else((s.drop (fb s)).drop (rf (s.drop (fb s))).2,out++s.take (fb s)++(rf (s.drop (fb s))).1)
def wC(rf:Ov):Nat->Bt->Bt->Bt
 |0,_,out=>out
 |n+1,s,out=>if s=[]then out else wC rf n (mg rf s out).1 (mg rf s out).2
def Xm(rf:Ov)(s:Bt):Bt:=wC rf s.length s []
theorem DJ(rf:Ov)(n:Nat)(out:Bt):wC rf n [] out=out:=by cases n<;>simp[wC]
def Ur(v:cK)(rf:Ov):Prop:=∀r:Bt,r.length<=100000->((rf r).2<=r.length/\(rf r).1.length<=1000000)/\∀W,eK W->
 Calls prog 109 #[.agg #[.string (bs v.e0),.string (bs v.e1),.string (bs v.e2),.string (bs v.e3),.string (bs v.e4),.string (bs v.e5)],.string (bs r)] W fun e W'=>e=.returned (.tuple #[.string (bs (rf r).1),.int .i64 (rf r).2])/\Below W.heap.size W W'
def yV:Value->Nat
 |.string b=>b.size
 |_=>0
theorem Rp(s t:Bt):-1<=Lib.index s t:=by
 rcases Lib.index_spec s t with⟨h,-⟩|⟨i,h,-⟩
 ·omega
 ·omega
theorem gT{s:Bt}(h:s≠[]):¬(bs s).toList=[]/\(bs s).toList.isEmpty=false:=by
 rw[bQ];refine⟨h,?_⟩;cases s with
 |nil=>exact aX rfl h
 |cons _ _=>rfl
theorem fE{s:Bt}(h:s=[]):(bs s).toList=[]/\(bs s).toList.isEmpty=true:=by
 subst h;rw[bQ];exact⟨rfl,rfl⟩
theorem Rq(v:cK)(rf:Ov)(hrf:Ur v rf)(s:Bt)(hs:s.length<=100000)(w:World)(hg:eK w):
 Calls prog 70 #[v.val,.string (bs s)] w fun e w'=>e=.returned (.string (bs (Xm rf s)))/\Below w.heap.size w w':=by
 have cg:Below w.heap.size w (w.alloc (.cells #[.string (bs v.e0),.string (bs v.e1),.string (bs v.e2),.string (bs v.e3),.string (bs v.e4),.string (bs v.e5)] 23)):=cU _ _;have Of:=SW.new (w.alloc (.cells #[.string (bs v.e0),.string (bs v.e1),.string (bs v.e2),.string (bs v.e3),.string (bs v.e4),.string (bs v.e5)] 23));have dG:=cg.alloc cg.size (.cells #[.pointer none,.slice none 0 0] 165);have ZO:=(bL.new w 23 #[.string (bs v.e0),.string (bs v.e1),.string (bs v.e2),.string (bs v.e3),.string (bs v.e4),.string (bs v.e5)]).alloc (.cells #[.pointer none,.slice none 0 0] 165);rw[size_alloc]at Of;have Jc:=bD Of;have HB:=bD dG;have HE:=bD ZO;have HG:=bD (fun W (hb:Below w.heap.size w W)=>hg.below hb);have zI:=bD hrf;have HT:Hy (wC rf s.length s []=Xm rf s):=rfl;generalize Xm rf s=T at*;clear cg Of dG ZO hg hrf;simp only[cK.val];go_enter func70,ntmps70;go_wp2_with fail;obtain⟨w1,jz⟩:∃w1,w1=(w.alloc (.cells #[.string (bs v.e0),.string (bs v.e1),.string (bs v.e2),.string (bs v.e3),.string (bs v.e4),.string (bs v.e5)] 23)).alloc (.cells #[.pointer none,.slice none 0 0] 165):=⟨_,rfl⟩;rw[<-jz]at Jc HB HE|-;clear jz;go_loopw [1] (fun sv wr=>∃(S O:Bt) (n:Nat),sv=.string (bs S)/\S.length<=n/\Hy (wC rf n S O=T)/\O.length+1000001*S.length<=1000000000000/\S.length<=100000/\Hy (SW (w.heap.size+1) (w.heap.size+1) O wr)/\Hy (bL wr w.heap.size 23 #[.string (bs v.e0),.string (bs v.e1),.string (bs v.e2),.string (bs v.e3),.string (bs v.e4),.string (bs v.e5)])/\Hy (Below w.heap.size w wr))
  (fun sv _=>yV sv)
 case atStart=>exact⟨s,[],s.length,rfl,dv _,HT,by simp;omega,hs,Jc,HE,HB⟩
 case round=>
  clear Jc HE HB HT hs;obtain⟨S,O,n,rfl,hn,HT,J2,mC,As,HE,HB⟩:=hrel;by_cases h0:S=[]
  ·obtain⟨e1,e2⟩:=fE h0;have HTO:Hy (O=T):=by rw[Hy,<-HT.o,h0,DJ]
   clear h0 HT;go_wp2_with fail;refine(Builder_String_any (w.heap.size+1) (w.heap.size+1) O wr As.o (by rcases As.o with h|h<;>exact Nat.le_of_lt h.lt)).mono ?_;rintro e w5 ⟨rfl,tF⟩;have ZI:=bD (HB.o.trans (tF.mono (by omega)));clear tF;go_wp2_with fail;go_ret;exact⟨by rw[<-HTO.o];rfl,ZI.o⟩
  ·obtain⟨e1,e2⟩:=gT h0;have CQ:0<S.length:=by cases S with|nil=>exact aX rfl h0|cons _ _=>simp
   obtain⟨m,rfl⟩:∃m,n=m+1:=⟨n-1,by omega⟩;have pr:Hy (wC rf m (mg rf S O).1 (mg rf S O).2=T):=by rw[Hy,<-HT.o,wC,aa h0]
   have M6:Hy (mg rf S O=if S.drop (fb S)=[]then([],O++S.take (fb S))
    else if(rf (S.drop (fb S))).2=0 then((S.drop (fb S)).drop 1,O++S.take (fb S)++(S.drop (fb S)).take 1)
    else((S.drop (fb S)).drop (rf (S.drop (fb S))).2,O++S.take (fb S)++(rf (S.drop (fb S))).1)):=rfl
   obtain⟨mm,hm⟩:=(HG.o wr HB.o).1;have YG:=bD (strings_Index (bs S) ⟨#[36,40]⟩ mm wr (by rw[bJ];omega) hm);rw[ga,show(⟨#[36,40]⟩:ByteArray).data.toList=[36,40]from rfl]at YG;have rq:=Rp S [36,40];have vF:=Lib.index_le S [36,40];have HK:Hy (fb S=if Lib.index S [36,40]<0 then S.length else(Lib.index S [36,40]).toNat):=rfl;generalize Lib.index S [36,40]=z at*;generalize fb S=K at*;have Fs:Hy (w.heap.size+1<=wr.heap.size):=by rcases As.o with h|h<;>exact Nat.le_of_lt h.lt
   have hKl:K<=S.length:=by rw[HK.o];split<;>omega
   have xB:=oF S K;have zG:=im S K;have aE0:(S.drop K).length+K=S.length:=by rw[aj];omega
   have aE1:(S.take K).length=K:=by rw[ay];omega
   generalize S.take K=S0 at*;generalize S.drop K=S1 at*;generalize mg rf S O=SS at*;have lQ:((bs S).size:Int)=(S.length:Int):=by rw[bJ]
   have hK0:(0:Int)<=(K:Int):=by omega
   have hK1:(K:Int)<=(S.length:Int):=by omega
   clear HT h0 hm;by_cases hz:z<0
   ·have hKs:((bs S).size:Int)=(K:Int):=by have:=HK.o;rw[ae hz]at this;rw[bJ];omega
    clear lQ HK;have J6:=bD (kS (w.heap.size+1) (w.heap.size+1) O S0 wr As.o (by omega) Fs.o);go_wp2_with fail;refine YG.o.mono ?_;rintro e w2 ⟨rfl,oM⟩;have oM:=oM.symm;subst oM;go_wp2_with fail;refine J6.o.mono ?_;rintro e w7 ⟨rfl,lH,Cx⟩;have Iw:=bD lH;have TY:=bD (HE.o.below Cx (by omega));have Jj:=bD (HB.o.trans (Cx.mono (by omega)));have Lo:Hy (w.heap.size+1<=w7.heap.size):=au Fs.o Cx.size;clear lH Cx J6 YG As HE HB xB e1 e2;by_cases h1:S1=[]
    ·obtain⟨e3,e4⟩:=fE h1;have HTO:Hy (O++S0=T):=by rw[Hy,<-pr.o,M6.o,ae h1,DJ]
     clear h1 pr M6;go_wp2_with fail;refine(Builder_String_any (w.heap.size+1) (w.heap.size+1) (O++S0) w7 Iw.o Lo.o).mono ?_;rintro e w8 ⟨rfl,YH⟩;have HW8:=bD (Jj.o.trans (YH.mono (by omega)));clear YH;go_wp2_with fail;go_ret;exact⟨by rw[<-HTO.o];rfl,HW8.o⟩
    ·obtain⟨e3,e4⟩:=gT h1;have ak8:0<S1.length:=by cases S1 with|nil=>exact aX rfl h1|cons _ _=>simp
     rw[aa h1]at M6;have Us:=zI.o S1 (by omega);have Kv:=Us.1.1;have Ad:=Us.1.2;have mE:=bD Us.2;clear Us h1;generalize rf S1=VN at*;obtain⟨vv,nn⟩:=VN;simp only at Kv Ad mE M6;obtain⟨g0,g1,g2,g3,g4,g5⟩:=nB TY.o;simp at g0 g1 g2 g3 g4 g5;go_wp2_with fail;refine(mE.o w7 (HG.o w7 Jj.o)).mono ?_;rintro e w8 ⟨rfl,oN⟩;have J8:=bD (Iw.o.below oN);have VQ:=bD (TY.o.below oN TY.o.lt);have Ut:=bD (Jj.o.trans (oN.mono (by have:=Lo.o;omega)));have HL8:Hy (w.heap.size+1<=w8.heap.size):=au Lo.o oN.size;clear oN Iw TY Jj Lo mE g0 g1 g2 g3 g4 g5 e3 e4 zG;have yi:((bs S1).size:Int)=(S1.length:Int):=by rw[bJ]
     by_cases IP:nn=0
     ·have SJ:((nn:Int)==0)=true:=by simp;omega
      have X7:(1:Int)<=(S1.length:Int):=by omega
      have tp:=oF S1 1;have xZ:=im S1 1;have wy:Hy (wC rf m (S1.drop 1) (O++S0++S1.take 1)=T):=by rw[Hy,<-pr.o,M6.o,ae IP]
      have uG:Hy ((S1.take 1).length<=1):=by rw[Hy,ay];omega
      have G1:Hy ((S1.drop 1).length+1=S1.length):=by rw[Hy,aj];omega
      clear pr M6;generalize S1.take 1=X1 at*;generalize S1.drop 1=X2 at*;have P9:=bD (kS (w.heap.size+1) (w.heap.size+1) (O++S0) X1 w8 J8.o (by rw[af];have:=uG.o;omega) HL8.o);go_wp2_with fail;refine P9.o.mono ?_;rintro e w9 ⟨rfl,fq,I8⟩;have lP:=bD fq;have GK:=bD (VQ.o.below I8 (by omega));have Ow:=bD (Ut.o.trans (I8.mono (by omega)));clear fq I8 P9;go_wp2_with fail;exact⟨⟨X2,O++S0++X1,m,rfl,by have:=G1.o;omega,wy,by rw[af,af];have:=uG.o;have:=G1.o;omega,by have:=G1.o;omega,lP,GK,Ow⟩,by simp only[yV,bJ];have:=G1.o;omega⟩
     ·have SJ:((nn:Int)==0)=false:=by simp;omega
      have X7:(nn:Int)<=(S1.length:Int):=by omega
      have h0i:(0:Int)<=(nn:Int):=by omega
      have xZ:=im S1 nn;have wy:Hy (wC rf m (S1.drop nn) (O++S0++vv)=T):=by rw[Hy,<-pr.o,M6.o,aa IP]
      have uG:Hy (vv.length<=1000000):=Ad;have G1:Hy ((S1.drop nn).length+nn=S1.length/\0<nn):=by rw[Hy,aj];omega
      clear pr M6;generalize S1.drop nn=X2 at*;have P9:=bD (kS (w.heap.size+1) (w.heap.size+1) (O++S0) vv w8 J8.o (by rw[af];have:=uG.o;omega) HL8.o);go_wp2_with fail;refine P9.o.mono ?_;rintro e w9 ⟨rfl,fq,I8⟩;have lP:=bD fq;have GK:=bD (VQ.o.below I8 (by omega));have Ow:=bD (Ut.o.trans (I8.mono (by omega)));clear fq I8 P9;go_wp2_with fail;exact⟨⟨X2,O++S0++vv,m,rfl,by have:=G1.o;omega,wy,by rw[af,af];have:=uG.o;have:=G1.o;omega,by have:=G1.o;omega,lP,GK,Ow⟩,by simp only[yV,bJ];have:=G1.o;omega⟩
   ·obtain rfl:z=(K:Int):=by have:=HK.o;rw[aa hz]at this;omega
    clear HK;have J6:=bD (kS (w.heap.size+1) (w.heap.size+1) O S0 wr As.o (by omega) Fs.o);go_wp2_with fail;refine YG.o.mono ?_;rintro e w2 ⟨rfl,oM⟩;have oM:=oM.symm;subst oM;go_wp2_with fail;refine J6.o.mono ?_;rintro e w7 ⟨rfl,lH,Cx⟩;have Iw:=bD lH;have TY:=bD (HE.o.below Cx (by omega));have Jj:=bD (HB.o.trans (Cx.mono (by omega)));have Lo:Hy (w.heap.size+1<=w7.heap.size):=au Fs.o Cx.size;clear lH Cx J6 YG As HE HB xB e1 e2;by_cases h1:S1=[]
    ·obtain⟨e3,e4⟩:=fE h1;have HTO:Hy (O++S0=T):=by rw[Hy,<-pr.o,M6.o,ae h1,DJ]
     clear h1 pr M6;go_wp2_with fail;refine(Builder_String_any (w.heap.size+1) (w.heap.size+1) (O++S0) w7 Iw.o Lo.o).mono ?_;rintro e w8 ⟨rfl,YH⟩;have HW8:=bD (Jj.o.trans (YH.mono (by omega)));clear YH;go_wp2_with fail;go_ret;exact⟨by rw[<-HTO.o];rfl,HW8.o⟩
    ·obtain⟨e3,e4⟩:=gT h1;have ak8:0<S1.length:=by cases S1 with|nil=>exact aX rfl h1|cons _ _=>simp
     rw[aa h1]at M6;have Us:=zI.o S1 (by omega);have Kv:=Us.1.1;have Ad:=Us.1.2;have mE:=bD Us.2;clear Us h1;generalize rf S1=VN at*;obtain⟨vv,nn⟩:=VN;simp only at Kv Ad mE M6;obtain⟨g0,g1,g2,g3,g4,g5⟩:=nB TY.o;simp at g0 g1 g2 g3 g4 g5;go_wp2_with fail;refine(mE.o w7 (HG.o w7 Jj.o)).mono ?_;rintro e w8 ⟨rfl,oN⟩;have J8:=bD (Iw.o.below oN);have VQ:=bD (TY.o.below oN TY.o.lt);have Ut:=bD (Jj.o.trans (oN.mono (by have:=Lo.o;omega)));have HL8:Hy (w.heap.size+1<=w8.heap.size):=au Lo.o oN.size;clear oN Iw TY Jj Lo mE g0 g1 g2 g3 g4 g5 e3 e4 zG;have yi:((bs S1).size:Int)=(S1.length:Int):=by rw[bJ]
     by_cases IP:nn=0
     ·have SJ:((nn:Int)==0)=true:=by simp;omega
      have X7:(1:Int)<=(S1.length:Int):=by omega
      have tp:=oF S1 1;have xZ:=im S1 1;have wy:Hy (wC rf m (S1.drop 1) (O++S0++S1.take 1)=T):=by rw[Hy,<-pr.o,M6.o,ae IP]
      have uG:Hy ((S1.take 1).length<=1):=by rw[Hy,ay];omega
      have G1:Hy ((S1.drop 1).length+1=S1.length):=by rw[Hy,aj];omega
      clear pr M6;generalize S1.take 1=X1 at*;generalize S1.drop 1=X2 at*;have P9:=bD (kS (w.heap.size+1) (w.heap.size+1) (O++S0) X1 w8 J8.o (by rw[af];have:=uG.o;omega) HL8.o);go_wp2_with fail;refine P9.o.mono ?_;rintro e w9 ⟨rfl,fq,I8⟩;have lP:=bD fq;have GK:=bD (VQ.o.below I8 (by omega));have Ow:=bD (Ut.o.trans (I8.mono (by omega)));clear fq I8 P9;go_wp2_with fail;exact⟨⟨X2,O++S0++X1,m,rfl,by have:=G1.o;omega,wy,by rw[af,af];have:=uG.o;have:=G1.o;omega,by have:=G1.o;omega,lP,GK,Ow⟩,by simp only[yV,bJ];have:=G1.o;omega⟩
     ·have SJ:((nn:Int)==0)=false:=by simp;omega
      have X7:(nn:Int)<=(S1.length:Int):=by omega
      have h0i:(0:Int)<=(nn:Int):=by omega
      have xZ:=im S1 nn;have wy:Hy (wC rf m (S1.drop nn) (O++S0++vv)=T):=by rw[Hy,<-pr.o,M6.o,aa IP]
      have uG:Hy (vv.length<=1000000):=Ad;have G1:Hy ((S1.drop nn).length+nn=S1.length/\0<nn):=by rw[Hy,aj];omega
      clear pr M6;generalize S1.drop nn=X2 at*;have P9:=bD (kS (w.heap.size+1) (w.heap.size+1) (O++S0) vv w8 J8.o (by rw[af];have:=uG.o;omega) HL8.o);go_wp2_with fail;refine P9.o.mono ?_;rintro e w9 ⟨rfl,fq,I8⟩;have lP:=bD fq;have GK:=bD (VQ.o.below I8 (by omega));have Ow:=bD (Ut.o.trans (I8.mono (by omega)));clear fq I8 P9;go_wp2_with fail;exact⟨⟨X2,O++S0++vv,m,rfl,by have:=G1.o;omega,wy,by rw[af,af];have:=uG.o;have:=G1.o;omega,by have:=G1.o;omega,lP,GK,Ow⟩,by simp only[yV,bJ];have:=G1.o;omega⟩
def kW(s:Bt):Bt × Bool:=(s,!s.isEmpty)
def gL(r:Bt × Bool):Value:=.tuple #[.string (bs r.1),.bool r.2]
theorem mK(s:Bt)(w:World):Calls prog 187 #[.string (bs s)] w fun e w'=>e=.returned (gL (kW s))/\w=w':=by
 by_cases h:s=[]
 ·obtain⟨e1,e2⟩:=fE h;have HV:Hy (gL (kW s)=.tuple #[.string (bs s),.bool false]):=by rw[Hy,h];rfl
  clear h;go_enter func187,ntmps187;go_wp2_with fail;go_ret2;exact⟨by rw[HV.o];rfl,rfl⟩
 ·obtain⟨e1,e2⟩:=gT h;have HV:Hy (gL (kW s)=.tuple #[.string (bs s),.bool true]):=by
   cases s with
   |nil=>exact aX rfl h
   |cons _ _=>rfl
  clear h;go_enter func187,ntmps187;go_wp2_with fail;go_ret2;exact⟨by rw[HV.o];rfl,rfl⟩
def rM(s key:Bt):Bt × Bool:=if key=[]then kW s else([],false)
theorem BC(s key:Bt)(g:Nat)(w:World)(hc:w.cell? ⟨g,0,none⟩=some (.string (bs s))):
 Calls prog 215 #[.string (bs key),.pointer (some ⟨g,0,none⟩)] w fun e w'=>e=.returned (gL (rM s key))/\w=w':=by
 by_cases h:key=[]
 ·obtain⟨e1,e2⟩:=fE h;have HV:Hy (rM s key=kW s):=by rw[Hy,rM,ae h]
  have HS:=bD (mK s w);generalize kW s=X at*;obtain⟨x,y⟩:=X;simp only[gL]at HS;clear h;go_enter func215,ntmps215;go_wp2_with fail;refine HS.o.mono ?_;rintro e w2 ⟨rfl,rfl⟩;go_wp2_with fail;go_ret2;exact⟨by rw[HV.o];rfl,rfl⟩
 ·obtain⟨e1,e2⟩:=gT h;have HV:Hy (rM s key=([],false)):=by rw[Hy,rM,aa h]
  clear h;go_enter func215,ntmps215;go_wp2_with fail;go_ret2;exact⟨by rw[HV.o];rfl,rfl⟩
theorem DK(s:Bt)(w:World):Calls prog 188 #[.string (bs s)] w fun e w'=>∃g,e=.returned (.func (.func 215) #[] #[.pointer (some ⟨g,0,none⟩)])/\w'.cell? ⟨g,0,none⟩=some (.string (bs s))/\w.heap.size<=g/\Below w.heap.size w w':=by
 have h1:=bD ((bL.new w 9 #[.string (bs s)]).cell 0);have h2:=bD (((aF w.heap.size w)).alloc (dv _) (.cells #[.string (bs s)] 9));go_enter func188,ntmps188;go_wp2_with fail;go_ret;exact⟨_,rfl,h1.out,dv _,h2.out⟩
def vQ(s key:Bt)(r:Bt × Bool):Bt × Bool:=if key=[]then kW s else r
theorem Rr(s:Bt)(E:Nat)(w:World):Calls prog 189 #[.string (bs s),.func (.func 185) #[] #[.pointer (some ⟨E,0,none⟩)]] w fun e w'=>∃g,e=.returned (.func (.func 216) #[] #[.pointer (some ⟨g,0,none⟩),.pointer (some ⟨g+1,0,none⟩)])/\w'.cell? ⟨g,0,none⟩=some (.string (bs s))/\w'.cell? ⟨g+1,0,none⟩=some (.func (.func 185) #[] #[.pointer (some ⟨E,0,none⟩)])/\w.heap.size<=g/\Below w.heap.size w w':=by
 have pq:Below w.heap.size w (w.alloc (.cells #[.string (bs s)] 9)):=cU _ _;have hT:∀t,Below w.heap.size w ((w.alloc (.cells #[.string (bs s)] 9)).alloc (.cells #[.func (.func 185) #[] #[.pointer (some ⟨E,0,none⟩)]] t)):=fun t=>pq.alloc pq.size _;have h1:=fun t=>((bL.new w 9 #[.string (bs s)]).alloc (.cells #[.func (.func 185) #[] #[.pointer (some ⟨E,0,none⟩)]] t)).cell 0;have h2:=fun t=>(bL.new (w.alloc (.cells #[.string (bs s)] 9)) t #[.func (.func 185) #[] #[.pointer (some ⟨E,0,none⟩)]]).cell 0;rw[size_alloc]at h2;have H1:=bD h1;have H2:=bD h2;have HT:=bD hT;clear pq hT h1 h2;go_enter func189,ntmps189;go_wp2_with fail;go_ret;exact⟨_,rfl,H1.o _,H2.o _,dv _,HT.o _⟩
theorem Ox(s key:Bt)(r:Bt × Bool)(g1 g2 E:Nat)(w:World)(h1:w.cell? ⟨g1,0,none⟩=some (.string (bs s)))(h2:w.cell? ⟨g2,0,none⟩=some (.func (.func 185) #[] #[.pointer (some ⟨E,0,none⟩)]))
 (hk:key≠[]->Calls prog 185 #[.string (bs key),.pointer (some ⟨E,0,none⟩)] w fun e w'=>e=.returned (gL r)/\Below w.heap.size w w'):
 Calls prog 216 #[.string (bs key),.pointer (some ⟨g1,0,none⟩),.pointer (some ⟨g2,0,none⟩)] w fun e w'=>e=.returned (gL (vQ s key r))/\Below w.heap.size w w':=by
 by_cases h:key=[]
 ·obtain⟨e1,e2⟩:=fE h;have HV:Hy (vQ s key r=kW s):=by rw[Hy,vQ,ae h]
  have HS:=bD (mK s w);generalize kW s=X at*;obtain⟨x,y⟩:=X;simp only[gL]at HS;clear h hk;go_enter func216,ntmps216;go_wp2_with fail;refine HS.o.mono ?_;rintro e w2 ⟨rfl,rfl⟩;go_wp2_with fail;go_ret2;exact⟨by rw[HV.o];rfl,aF _ _⟩
 ·obtain⟨e1,e2⟩:=gT h;have HV:Hy (vQ s key r=r):=by rw[Hy,vQ,aa h]
  have HK:=bD (hk h);obtain⟨x,y⟩:=r;simp only[gL]at HK;clear h hk;go_enter func216,ntmps216;go_wp2_with fail;refine HK.o.mono ?_;rintro e w2 ⟨rfl,hb⟩;have HB:=bD hb;clear hb;go_wp2_with fail;go_ret2;exact⟨by rw[HV.o];rfl,HB.o⟩
theorem Rt(s:Bt)(E:Nat)(w:World):Calls prog 189 #[.string (bs s),.func (.func 190) #[] #[.pointer (some ⟨E,0,none⟩)]] w fun e w'=>∃g,e=.returned (.func (.func 216) #[] #[.pointer (some ⟨g,0,none⟩),.pointer (some ⟨g+1,0,none⟩)])/\w'.cell? ⟨g,0,none⟩=some (.string (bs s))/\w'.cell? ⟨g+1,0,none⟩=some (.func (.func 190) #[] #[.pointer (some ⟨E,0,none⟩)])/\w.heap.size<=g/\Below w.heap.size w w':=by
 have pq:Below w.heap.size w (w.alloc (.cells #[.string (bs s)] 9)):=cU _ _;have hT:∀t,Below w.heap.size w ((w.alloc (.cells #[.string (bs s)] 9)).alloc (.cells #[.func (.func 190) #[] #[.pointer (some ⟨E,0,none⟩)]] t)):=fun t=>pq.alloc pq.size _;have h1:=fun t=>((bL.new w 9 #[.string (bs s)]).alloc (.cells #[.func (.func 190) #[] #[.pointer (some ⟨E,0,none⟩)]] t)).cell 0;have h2:=fun t=>(bL.new (w.alloc (.cells #[.string (bs s)] 9)) t #[.func (.func 190) #[] #[.pointer (some ⟨E,0,none⟩)]]).cell 0;rw[size_alloc]at h2;have H1:=bD h1;have H2:=bD h2;have HT:=bD hT;clear pq hT h1 h2;go_enter func189,ntmps189;go_wp2_with fail;go_ret;exact⟨_,rfl,H1.o _,H2.o _,dv _,HT.o _⟩
theorem Oy(s key:Bt)(r:Bt × Bool)(g1 g2 E:Nat)(w:World)(h1:w.cell? ⟨g1,0,none⟩=some (.string (bs s)))(h2:w.cell? ⟨g2,0,none⟩=some (.func (.func 190) #[] #[.pointer (some ⟨E,0,none⟩)]))
 (hk:key≠[]->Calls prog 190 #[.string (bs key),.pointer (some ⟨E,0,none⟩)] w fun e w'=>e=.returned (gL r)/\Below w.heap.size w w'):
 Calls prog 216 #[.string (bs key),.pointer (some ⟨g1,0,none⟩),.pointer (some ⟨g2,0,none⟩)] w fun e w'=>e=.returned (gL (vQ s key r))/\Below w.heap.size w w':=by
 by_cases h:key=[]
 ·obtain⟨e1,e2⟩:=fE h;have HV:Hy (vQ s key r=kW s):=by rw[Hy,vQ,ae h]
  have HS:=bD (mK s w);generalize kW s=X at*;obtain⟨x,y⟩:=X;simp only[gL]at HS;clear h hk;go_enter func216,ntmps216;go_wp2_with fail;refine HS.o.mono ?_;rintro e w2 ⟨rfl,rfl⟩;go_wp2_with fail;go_ret2;exact⟨by rw[HV.o];rfl,aF _ _⟩
 ·obtain⟨e1,e2⟩:=gT h;have HV:Hy (vQ s key r=r):=by rw[Hy,vQ,aa h]
  have HK:=bD (hk h);obtain⟨x,y⟩:=r;simp only[gL]at HK;clear h hk;go_enter func216,ntmps216;go_wp2_with fail;refine HK.o.mono ?_;rintro e w2 ⟨rfl,hb⟩;have HB:=bD hb;clear hb;go_wp2_with fail;go_ret2;exact⟨by rw[HV.o];rfl,HB.o⟩
theorem Ru(s:Bt)(E:Nat)(w:World):Calls prog 189 #[.string (bs s),.func (.func 193) #[] #[.pointer (some ⟨E,0,none⟩)]] w fun e w'=>∃g,e=.returned (.func (.func 216) #[] #[.pointer (some ⟨g,0,none⟩),.pointer (some ⟨g+1,0,none⟩)])/\w'.cell? ⟨g,0,none⟩=some (.string (bs s))/\w'.cell? ⟨g+1,0,none⟩=some (.func (.func 193) #[] #[.pointer (some ⟨E,0,none⟩)])/\w.heap.size<=g/\Below w.heap.size w w':=by
 have pq:Below w.heap.size w (w.alloc (.cells #[.string (bs s)] 9)):=cU _ _;have hT:∀t,Below w.heap.size w ((w.alloc (.cells #[.string (bs s)] 9)).alloc (.cells #[.func (.func 193) #[] #[.pointer (some ⟨E,0,none⟩)]] t)):=fun t=>pq.alloc pq.size _;have h1:=fun t=>((bL.new w 9 #[.string (bs s)]).alloc (.cells #[.func (.func 193) #[] #[.pointer (some ⟨E,0,none⟩)]] t)).cell 0;have h2:=fun t=>(bL.new (w.alloc (.cells #[.string (bs s)] 9)) t #[.func (.func 193) #[] #[.pointer (some ⟨E,0,none⟩)]]).cell 0;rw[size_alloc]at h2;have H1:=bD h1;have H2:=bD h2;have HT:=bD hT;clear pq hT h1 h2;go_enter func189,ntmps189;go_wp2_with fail;go_ret;exact⟨_,rfl,H1.o _,H2.o _,dv _,HT.o _⟩
theorem Oz(s key:Bt)(r:Bt × Bool)(g1 g2 E:Nat)(w:World)(h1:w.cell? ⟨g1,0,none⟩=some (.string (bs s)))(h2:w.cell? ⟨g2,0,none⟩=some (.func (.func 193) #[] #[.pointer (some ⟨E,0,none⟩)]))
 (hk:key≠[]->Calls prog 193 #[.string (bs key),.pointer (some ⟨E,0,none⟩)] w fun e w'=>e=.returned (gL r)/\Below w.heap.size w w'):
 Calls prog 216 #[.string (bs key),.pointer (some ⟨g1,0,none⟩),.pointer (some ⟨g2,0,none⟩)] w fun e w'=>e=.returned (gL (vQ s key r))/\Below w.heap.size w w':=by
 by_cases h:key=[]
 ·obtain⟨e1,e2⟩:=fE h;have HV:Hy (vQ s key r=kW s):=by rw[Hy,vQ,ae h]
  have HS:=bD (mK s w);generalize kW s=X at*;obtain⟨x,y⟩:=X;simp only[gL]at HS;clear h hk;go_enter func216,ntmps216;go_wp2_with fail;refine HS.o.mono ?_;rintro e w2 ⟨rfl,rfl⟩;go_wp2_with fail;go_ret2;exact⟨by rw[HV.o];rfl,aF _ _⟩
 ·obtain⟨e1,e2⟩:=gT h;have HV:Hy (vQ s key r=r):=by rw[Hy,vQ,aa h]
  have HK:=bD (hk h);obtain⟨x,y⟩:=r;simp only[gL]at HK;clear h hk;go_enter func216,ntmps216;go_wp2_with fail;refine HK.o.mono ?_;rintro e w2 ⟨rfl,hb⟩;have HB:=bD hb;clear hb;go_wp2_with fail;go_ret2;exact⟨by rw[HV.o];rfl,HB.o⟩
theorem Rv(s:Bt)(E:Nat)(w:World):Calls prog 189 #[.string (bs s),.func (.func 195) #[] #[.pointer (some ⟨E,0,none⟩)]] w fun e w'=>∃g,e=.returned (.func (.func 216) #[] #[.pointer (some ⟨g,0,none⟩),.pointer (some ⟨g+1,0,none⟩)])/\w'.cell? ⟨g,0,none⟩=some (.string (bs s))/\w'.cell? ⟨g+1,0,none⟩=some (.func (.func 195) #[] #[.pointer (some ⟨E,0,none⟩)])/\w.heap.size<=g/\Below w.heap.size w w':=by
 have pq:Below w.heap.size w (w.alloc (.cells #[.string (bs s)] 9)):=cU _ _;have hT:∀t,Below w.heap.size w ((w.alloc (.cells #[.string (bs s)] 9)).alloc (.cells #[.func (.func 195) #[] #[.pointer (some ⟨E,0,none⟩)]] t)):=fun t=>pq.alloc pq.size _;have h1:=fun t=>((bL.new w 9 #[.string (bs s)]).alloc (.cells #[.func (.func 195) #[] #[.pointer (some ⟨E,0,none⟩)]] t)).cell 0;have h2:=fun t=>(bL.new (w.alloc (.cells #[.string (bs s)] 9)) t #[.func (.func 195) #[] #[.pointer (some ⟨E,0,none⟩)]]).cell 0;rw[size_alloc]at h2;have H1:=bD h1;have H2:=bD h2;have HT:=bD hT;clear pq hT h1 h2;go_enter func189,ntmps189;go_wp2_with fail;go_ret;exact⟨_,rfl,H1.o _,H2.o _,dv _,HT.o _⟩
theorem OA(s key:Bt)(r:Bt × Bool)(g1 g2 E:Nat)(w:World)(h1:w.cell? ⟨g1,0,none⟩=some (.string (bs s)))(h2:w.cell? ⟨g2,0,none⟩=some (.func (.func 195) #[] #[.pointer (some ⟨E,0,none⟩)]))
 (hk:key≠[]->Calls prog 195 #[.string (bs key),.pointer (some ⟨E,0,none⟩)] w fun e w'=>e=.returned (gL r)/\Below w.heap.size w w'):
 Calls prog 216 #[.string (bs key),.pointer (some ⟨g1,0,none⟩),.pointer (some ⟨g2,0,none⟩)] w fun e w'=>e=.returned (gL (vQ s key r))/\Below w.heap.size w w':=by
 by_cases h:key=[]
 ·obtain⟨e1,e2⟩:=fE h;have HV:Hy (vQ s key r=kW s):=by rw[Hy,vQ,ae h]
  have HS:=bD (mK s w);generalize kW s=X at*;obtain⟨x,y⟩:=X;simp only[gL]at HS;clear h hk;go_enter func216,ntmps216;go_wp2_with fail;refine HS.o.mono ?_;rintro e w2 ⟨rfl,rfl⟩;go_wp2_with fail;go_ret2;exact⟨by rw[HV.o];rfl,aF _ _⟩
 ·obtain⟨e1,e2⟩:=gT h;have HV:Hy (vQ s key r=r):=by rw[Hy,vQ,aa h]
  have HK:=bD (hk h);obtain⟨x,y⟩:=r;simp only[gL]at HK;clear h hk;go_enter func216,ntmps216;go_wp2_with fail;refine HK.o.mono ?_;rintro e w2 ⟨rfl,hb⟩;have HB:=bD hb;clear hb;go_wp2_with fail;go_ret2;exact⟨by rw[HV.o];rfl,HB.o⟩
theorem Qd{r key r1:Bt}(h:Ck r=some (key,r1)):key.length<=r.length/\r1.length<=r.length:=by
 unfold Ck at h;split at h
 ·split at h
  ·cases h
  ·split at h
   ·injection h with h
    injection h with h1 h2
    subst h1 h2;rw[aj,ay,aj];omega
   ·cases h
 ·injection h with h
  injection h with h1 h2
  subst h1 h2;simp
theorem G8{r o r1:Bt}(h:jD r=some (o,r1)):o.length<=r.length/\r1.length<=r.length:=by
 unfold jD at h;split at h
 ·split at h
  ·have hc:=je (r.drop 2) [39];rw[aj]at hc;injection h with h
   injection h with h1 h2
   subst h1 h2;omega
  ·cases h
 ·split at h
  ·injection h with h
   injection h with h1 h2
   subst h1 h2;rw[aj,ay,aj];omega
  ·injection h with h
   injection h with h1 h2
   subst h1 h2;simp
theorem RN(val:nK)(s nm key o r:Bt)(B:Nat)(hb:(val nm key).1.length<=B)(ho:o.length<=B)(hr:r.length<=s.length):(fS val s nm key o r).1.length<=B/\(fS val s nm key o r).2<=s.length:=by
 unfold fS;split
 ·rename_i h;have hl:1<=r.length:=eT h;refine⟨?_,by show s.length-r.length+1<=s.length;omega⟩
  show(if(val nm key).2 then(val nm key).1 else o).length<=B
  split
  ·exact hb
  ·exact ho
 ·exact⟨ax _,ax _⟩
theorem Jk(val:nK)(s:Bt)(B:Nat)(hb:∀nm key,(val nm key).1.length<=B)(hs:s.length<=B):(j9 val s).1.length<=B/\(j9 val s).2<=s.length:=by
 unfold j9;split
 ·split
  ·exact⟨ax _,ax _⟩
  ·cases hk:Ck ((s.drop 2).drop (runN rL (s.drop 2)))with
   |none=>exact⟨ax _,ax _⟩
   |some kr=>
    obtain⟨key,r1⟩:=kr;have h1:=(Qd hk).2;rw[aj,aj]at h1;simp only;cases ho:jD r1 with
    |none=>exact⟨ax _,ax _⟩
    |some or=>
     obtain⟨o,r2⟩:=or;have h2:=G8 ho;exact RN val s _ key o r2 B (hb _ _) (by omega) (by omega)
 ·exact⟨ax _,ax _⟩
theorem LQ(rf:Ov)(N B:Nat)(h:∀r:Bt,r.length<=N->(rf r).1.length<=B/\(rf r).2<=r.length):∀(n:Nat) (s out:Bt),s.length<=N->(wC rf n s out).length<=out.length+(B+1)*s.length
 |0,s,out,hs=>by rw[wC];omega
 |n+1,s,out,hs=>by
  rw[wC];split
  ·omega
  ·rename_i db;have B4:(s.take (fb s)).length+(s.drop (fb s)).length=s.length:=by rw[ay,aj];omega
   have key:((mg rf s out).2).length+(B+1)*((mg rf s out).1).length<=out.length+(B+1)*s.length/\((mg rf s out).1).length<=N:=by
    unfold mg;generalize s.take (fb s)=S0 at*;generalize s.drop (fb s)=S1 at*;have al4:(B+1)*s.length=(B+1)*S0.length+(B+1)*S1.length:=by rw[<-B4,Nat.mul_add]
    have dh:S0.length<=(B+1)*S0.length:=Nat.le_mul_of_pos_left _ (by omega);split
    ·refine⟨?_,ax _⟩;simp only[af,aD,Nat.mul_zero,Nat.add_zero];omega
    ·rename_i h1;have hp:0<S1.length:=by cases S1 with|nil=>exact aX rfl h1|cons _ _=>simp
     have hr:=h S1 (by omega);split
     ·refine⟨?_,by rw[aj];omega⟩;have e:(B+1)*S1.length=(B+1)*(S1.length-1)+(B+1):=by rw[<-Nat.mul_succ];congr 1;omega
      simp only[af,ay,aj];rw[al4,e];have:min 1 S1.length<=1:=Nat.min_le_left _ _;omega
     ·rename_i h2;refine⟨?_,by rw[aj];omega⟩;have e:(B+1)*S1.length=(B+1)*(S1.length-(rf S1).2)+(B+1)*(rf S1).2:=by rw[<-Nat.mul_add];congr 1;omega
      have e2:B+1<=(B+1)*(rf S1).2:=Nat.le_mul_of_pos_right _ (by omega);simp only[af,aj];rw[al4,e];omega
   have ih:=LQ rf N B h n (mg rf s out).1 (mg rf s out).2 key.2;omega
end Go.Proofs.YtejafaaihodehaaGreatDoor
