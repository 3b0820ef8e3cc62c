/- Part 45. -/
import Derived.Test.YtejafaaihodehaaGreatDoorZ44
set_option linter.all false
set_option maxRecDepth 100000
set_option maxHeartbeats 8000000
namespace Go.Proofs.YtejafaaihodehaaGreatDoor
open Go Go.RowKit Tryz
def s7(val:nK)(x:Ex):Bool:=AI x&&lI val x&&decide (lW x<=16)
theorem F5(val:nK)(jj:qE y7 val)(x:Ex)(A:Option Addr)(c:Nat)(F:Nat->Prop)(w:World)(po:F3 x)(hg:eK w)(hk:GR w F (.row 5 (x.bE.map Ex.gv)) [.slice A x.bE.length c]):
 Calls prog 175 #[da x (.slice A x.bE.length c)] w fun e w'=>e=.returned (.bool (s7 val x))/\Below w.heap.size w w':=by
 have HB:=bD (cU w (.cells (bH x (.slice A x.bE.length c)).toArray 202));have HX:=bD (bL.new w 202 (bH x (.slice A x.bE.length c)).toArray);have YO:=bD (fun W (hb:Below w.heap.size w W)=>BH x A c F W (hk.below hb));have HWL:=bD (fun(h:lV x<=60) W (hb:Below w.heap.size w W)=>OO val jj (lV x) x A c F W (dv _) (by omega) po (hg.below hb) (hk.below hb));have HDP:=bD (fun(h:lV x<=60) W (hb:Below w.heap.size w W)=>y9 (lV x) x A c F W (dv _) (by omega) (hk.below hb));have xy:Hy (AI x=true->lV x<=60):=AK;have HV:Hy (s7 val x=(AI x&&lI val x&&decide (lW x<=16))):=rfl;generalize s7 val x=R at*;generalize hff:AI x=ff at*;generalize lI val x=wl at*;generalize lW x=de at*;clear hff hk hg po jj;simp only[da,bH]at*;go_enter func175,ntmps175;go_upto_region 1 with(fail)
 change Code.wp _ _ _ _ (w.alloc (.cells [Value.int .i64 x.kind,.int .i64 x.n,.string (bs x.text),.string (bs x.iD),.slice A x.bE.length c].toArray 202));generalize w.alloc (.cells [Value.int .i64 x.kind,.int .i64 x.n,.string (bs x.text),.string (bs x.iD),.slice A x.bE.length c].toArray 202)=w1 at*;generalize nH:w.heap.size=X at*;have gg:=bD nH;clear nH;obtain⟨c0,c1,c2,c3,c4⟩:=kK HX.o;simp at c0 c1 c2 c3 c4;have HC:=bD (YO.o w1 HB.o);cases ff with
 |false=>
  have eA:Hy (R=false):=by rw[Hy,HV.o];rfl
  clear HV;go_wp2_with fail;refine HC.o.mono ?_;rintro e w9 ⟨rfl,fq⟩;have lP:=bD (HB.o.trans (fq.mono (by have h:=HB.o.size;rw[gg.o]at h;exact h)));have qv:=bD (HX.o.below fq HX.o.lt);clear fq HB HX c0 c1 c2 c3 c4;obtain⟨w1,rfl⟩:∃w1:World,w1=w9:=⟨_,rfl⟩;have HB:=lP;have HX:=qv;clear lP qv;obtain⟨c0,c1,c2,c3,c4⟩:=kK HX.o;simp at c0 c1 c2 c3 c4;go_wp2_with fail;go_ret;exact⟨by rw[eA.o]<;>rfl,by rw[gg.o];exact HB.o⟩
 |true=>
 have lQ:=xy.o rfl;have HWL:=bD (HWL.o lQ);have HDP:=bD (HDP.o lQ);clear lQ xy;go_wp2_with fail;refine HC.o.mono ?_;rintro e w9 ⟨rfl,fq⟩;have lP:=bD (HB.o.trans (fq.mono (by have h:=HB.o.size;rw[gg.o]at h;exact h)));have qv:=bD (HX.o.below fq HX.o.lt);clear fq HB HX c0 c1 c2 c3 c4;obtain⟨w1,rfl⟩:∃w1:World,w1=w9:=⟨_,rfl⟩;have HB:=lP;have HX:=qv;clear lP qv;obtain⟨c0,c1,c2,c3,c4⟩:=kK HX.o;simp at c0 c1 c2 c3 c4;clear HC;have HC:=bD (HWL.o w1 HB.o);cases wl with
 |false=>
  have eA:Hy (R=false):=by rw[Hy,HV.o];rfl
  clear HV;go_wp2_with fail;refine HC.o.mono ?_;rintro e w9 ⟨rfl,fq⟩;have lP:=bD (HB.o.trans (fq.mono (by have h:=HB.o.size;rw[gg.o]at h;exact h)));have qv:=bD (HX.o.below fq HX.o.lt);clear fq HB HX c0 c1 c2 c3 c4;obtain⟨w1,rfl⟩:∃w1:World,w1=w9:=⟨_,rfl⟩;have HB:=lP;have HX:=qv;clear lP qv;obtain⟨c0,c1,c2,c3,c4⟩:=kK HX.o;simp at c0 c1 c2 c3 c4;go_wp2_with fail;go_ret;exact⟨by rw[eA.o]<;>rfl,by rw[gg.o];exact HB.o⟩
 |true=>
 have eA:Hy (R=decide ((de:Int)<=16)):=by
  rw[Hy,HV.o,bj];simp only[Bool.and_true,Bool.true_and,aH];omega
 clear HV;go_wp2_with fail;refine HC.o.mono ?_;rintro e w9 ⟨rfl,fq⟩;have lP:=bD (HB.o.trans (fq.mono (by have h:=HB.o.size;rw[gg.o]at h;exact h)));have qv:=bD (HX.o.below fq HX.o.lt);clear fq HB HX c0 c1 c2 c3 c4;obtain⟨w1,rfl⟩:∃w1:World,w1=w9:=⟨_,rfl⟩;have HB:=lP;have HX:=qv;clear lP qv;obtain⟨c0,c1,c2,c3,c4⟩:=kK HX.o;simp at c0 c1 c2 c3 c4;clear HC;have HC:=bD (HDP.o w1 HB.o);go_wp2_with fail;refine HC.o.mono ?_;rintro e w9 ⟨rfl,fq⟩;have lP:=bD (HB.o.trans (fq.mono (by have h:=HB.o.size;rw[gg.o]at h;exact h)));have qv:=bD (HX.o.below fq HX.o.lt);clear fq HB HX c0 c1 c2 c3 c4;obtain⟨w1,rfl⟩:∃w1:World,w1=w9:=⟨_,rfl⟩;have HB:=lP;have HX:=qv;clear lP qv;obtain⟨c0,c1,c2,c3,c4⟩:=kK HX.o;simp at c0 c1 c2 c3 c4;go_wp2_with fail;go_ret;exact⟨by rw[eA.o]<;>rfl,by rw[gg.o];exact HB.o⟩
def L5(n:Int):Bt:=if n<0 then 45::Lib.decDigits n.natAbs else Lib.decDigits n.natAbs
theorem Jv(n:Int)(t s:Bt)(A:Option Addr)(c:Nat)(w:World)(hg:eK w)(h1:-1099511627776<=n)(h2:n<=1099511627776):
 Calls prog 237 #[da (.mk 1 n t s []) (.slice A 0 c)] w fun e w'=>e=.returned (.string (bs (L5 n)))/\Below w.heap.size w w':=by
 have HB:=bD (cU w (.cells (bH (.mk 1 n t s []) (.slice A 0 c)).toArray 202));have HX:=bD (bL.new w 202 (bH (.mk 1 n t s []) (.slice A 0 c)).toArray);have HD:=bD (Gp n.natAbs (by omega) _ (hg.below HB.o));have M4:=Ir (n:=n.natAbs) (by omega);have HV:Hy (L5 n=if n<0 then 45::Lib.decDigits n.natAbs else Lib.decDigits n.natAbs):=rfl;generalize L5 n=R at*;clear hg;simp only[da,bH,Ex.kind,Ex.n,Ex.text,Ex.iD]at HB HX HD|-;go_enter func237,ntmps237;go_upto_region 1 with(fail)
 change Code.wp _ _ _ _ (w.alloc (.cells [Value.int .i64 1,.int .i64 n,.string (bs t),.string (bs s),.slice A 0 c].toArray 202));generalize w.alloc (.cells [Value.int .i64 1,.int .i64 n,.string (bs t),.string (bs s),.slice A 0 c].toArray 202)=w1 at*;generalize nH:w.heap.size=X at*;have gg:=bD nH;clear nH;have c0:=HX.o.cell 0;have c1:=HX.o.cell 1;have c4:=HX.o.cell 4;simp at c0 c1 c4;go_wp2_with fail;go_loopw [10] (fun i wr=>i=.int .i64 0/\wr=w1)
  (fun i wr=>0)
 case atStart=>exact⟨rfl,rfl⟩
 case round=>
  obtain⟨rfl,rfl⟩:=hrel;by_cases hn:n<0
  ·obtain⟨u,rfl⟩:∃u:Nat,n=-(u:Int):=⟨n.natAbs,by omega⟩;have e1:(-(u:Int)).natAbs=u:=by omega
   rw[e1]at HD M4 HV;have eA:Hy (R=45::Lib.decDigits u):=by rw[Hy,HV.o,ae hn]
   have e2:IntKind.i64.wrap (u:Int)=(u:Int):=aI _ (by omega);have e3:IntKind.u64.wrap (u:Int)=(u:Int):=IntWalk.u64_in _ (by omega);have q1:(bs (Lib.decDigits u)).size<=20:=by rw[bJ];exact M4
   have q2:¬9223372036854775807<(⟨#[45]⟩:ByteArray).size+(bs (Lib.decDigits u)).size:=by rw[show(⟨#[45]⟩:ByteArray).size=1 from rfl];omega
   have q3:(⟨#[45]⟩:ByteArray).size+(bs (Lib.decDigits u)).size<=9223372036854775807:=by rw[show(⟨#[45]⟩:ByteArray).size=1 from rfl];omega
   clear HV h1 h2 M4;go_wp2_with fail;refine HD.o.mono ?_;rintro e w2 ⟨rfl,cu⟩;have dm:=bD (HB.o.trans (cu.mono (by have h:=HB.o.size;rw[gg.o]at h;exact h)));clear cu HD;go_wp2_with fail;go_ret;exact⟨by rw[eA.o];exact congrArg _ (congrArg Value.string (ByteArray.ext (by simp[bs]))),by rw[gg.o];exact dm.o⟩
  ·obtain⟨u,rfl⟩:∃u:Nat,n=(u:Int):=⟨n.natAbs,by omega⟩;have e1:(u:Int).natAbs=u:=by omega
   rw[e1]at HD M4 HV;have eA:Hy (R=Lib.decDigits u):=by rw[Hy,HV.o,aa hn]
   have e3:IntKind.u64.wrap (u:Int)=(u:Int):=IntWalk.u64_in _ (by omega);clear HV h1 h2 M4;go_wp2_with fail;refine HD.o.mono ?_;rintro e w2 ⟨rfl,cu⟩;have dm:=bD (HB.o.trans (cu.mono (by have h:=HB.o.size;rw[gg.o]at h;exact h)));clear cu HD;go_wp2_with fail;go_ret;exact⟨by rw[eA.o]<;>rfl,by rw[gg.o];exact dm.o⟩
def kA(val:nK)(x:Ex):Bt:=if x.kind=2 then x.text else if x.kind=3 then(j9 val x.text).1 else L5 x.n
theorem F6(v:cK)(val:nK)(jj:qE v val)(x:Ex)(A:Option Addr)(c:Nat)(w:World)(hg:eK w)(po:F3 x)(hs:eP x=true)(hk:x.kind=1->x.bE=[]):
 Calls prog 208 #[v.val,da x (.slice A x.bE.length c)] w fun e w'=>e=.returned (.string (bs (kA val x)))/\Below w.heap.size w w':=by
 have cg:Below w.heap.size w ((w.alloc (.cells #[.string (bs v.e0),.string (bs v.e1),.string (bs v.e2),.string (bs v.e3),.string (bs v.e4),.string (bs v.e5)] 23)).alloc (.cells (bH x (.slice A x.bE.length c)).toArray 202)):=
  (cU w (.cells #[.string (bs v.e0),.string (bs v.e1),.string (bs v.e2),.string (bs v.e3),.string (bs v.e4),.string (bs v.e5)] 23)).alloc (by rw[size_alloc];omega) (.cells (bH x (.slice A x.bE.length c)).toArray 202)
 have Qj:=(aF (w.alloc (.cells #[.string (bs v.e0),.string (bs v.e1),.string (bs v.e2),.string (bs v.e3),.string (bs v.e4),.string (bs v.e5)] 23)).heap.size (w.alloc (.cells #[.string (bs v.e0),.string (bs v.e1),.string (bs v.e2),.string (bs v.e3),.string (bs v.e4),.string (bs v.e5)] 23))).alloc (dv _) (.cells (bH x (.slice A x.bE.length c)).toArray 202);have hE:=(bL.new w 23 #[.string (bs v.e0),.string (bs v.e1),.string (bs v.e2),.string (bs v.e3),.string (bs v.e4),.string (bs v.e5)]);have HE:=bD (hE.below Qj hE.lt);have HB:=bD cg;have HX:=bD (bL.new (w.alloc (.cells #[.string (bs v.e0),.string (bs v.e1),.string (bs v.e2),.string (bs v.e3),.string (bs v.e4),.string (bs v.e5)] 23)) 202 (bH x (.slice A x.bE.length c)).toArray);have HG:=bD (hg.below HB.o);obtain⟨o1,o2,o3,o4,o5⟩:=(AN x).1 po;have HR:Hy (∀W,eK W->Calls prog 109 #[.agg #[.string (bs v.e0),.string (bs v.e1),.string (bs v.e2),.string (bs v.e3),.string (bs v.e4),.string (bs v.e5)],.string (bs x.text)] W fun e w'=>e=.returned (.tuple #[.string (bs (j9 val x.text).1),.int .i64 (j9 val x.text).2])/\Below W.heap.size W w'):=fun W hg=>vP v val jj x.text (by omega) W hg;have HW:Hy (x.kind=1->∀W,eK W->Calls prog 237 #[da x (.slice A x.bE.length c)] W fun e w'=>e=.returned (.string (bs (L5 x.n)))/\Below W.heap.size W w'):=by
  intro h W hg;have h2:=hk h;obtain⟨xk,xn,xt,xs,xl⟩:=x;simp only[Ex.kind,Ex.bE,Ex.n]at h h2 o3 o4|-;subst h h2;exact Jv xn xt xs A c W hg o3 o4
 have HV:Hy (kA val x=if x.kind=2 then x.text else if x.kind=3 then(j9 val x.text).1 else L5 x.n):=rfl;have HS:Hy (x.kind≠2->x.kind≠3->x.kind=1):=by
  intro h2 h3;unfold eP at hs;simp at hs;omega
 generalize kA val x=R at*;clear cg Qj hE hg po hs hk jj o1 o2 o3 o4 o5;simp only[da,bH,cK.val]at*;go_enter func208,ntmps208;go_upto_region 1 with(fail)
 rw[size_alloc]at HX;change Code.wp _ _ _ _ ((w.alloc (.cells #[.string (bs v.e0),.string (bs v.e1),.string (bs v.e2),.string (bs v.e3),.string (bs v.e4),.string (bs v.e5)] 23)).alloc (.cells [Value.int .i64 x.kind,.int .i64 x.n,.string (bs x.text),.string (bs x.iD),.slice A x.bE.length c].toArray 202));generalize(w.alloc (.cells #[.string (bs v.e0),.string (bs v.e1),.string (bs v.e2),.string (bs v.e3),.string (bs v.e4),.string (bs v.e5)] 23)).alloc (.cells [Value.int .i64 x.kind,.int .i64 x.n,.string (bs x.text),.string (bs x.iD),.slice A x.bE.length c].toArray 202)=w1 at*;have bW:=HE.o.lt;have OQ:=bD HB.o.size;clear bW;obtain⟨c0,c1,c2,c3,c4⟩:=kK HX.o;obtain⟨e0,e1,e2,e3,e4,e5⟩:=nB HE.o;simp at c0 c1 c2 c3 c4 e0 e1 e2 e3 e4 e5;by_cases h2:x.kind=2
 ·have b2:(x.kind==2)=true:=by rw[h2];rfl
  have eA:Hy (R=x.text):=by rw[Hy,HV.o,ae h2]
  clear HV h2 HW HR HS;go_wp2_with fail;go_ret;exact⟨by rw[eA.o]<;>rfl,HB.o⟩
 ·have b2:(x.kind==2)=false:=by rw[ai];exact h2
  by_cases h3:x.kind=3
  ·have b3:(x.kind==3)=true:=by rw[h3];rfl
   have eA:Hy (R=(j9 val x.text).1):=by rw[Hy,HV.o,aa h2,ae h3]
   clear HV h2 h3 HW HS;have HR:=bD (HR.o _ HG.o);go_wp2_with fail;refine HR.o.mono ?_;rintro e w2 ⟨rfl,cu⟩;have dm:=bD (HB.o.trans (cu.mono OQ.o));clear cu HR;go_wp2_with fail;go_ret;exact⟨by rw[eA.o]<;>rfl,dm.o⟩
  ·have b3:(x.kind==3)=false:=by rw[ai];exact h3
   have eA:Hy (R=L5 x.n):=by rw[Hy,HV.o,aa h2,aa h3]
   have P9:=bD (HW.o (HS.o h2 h3) _ HG.o);clear HV h2 h3 HW HS HR;go_wp2_with fail;refine P9.o.mono ?_;rintro e w2 ⟨rfl,cu⟩;have dm:=bD (HB.o.trans (cu.mono OQ.o));clear cu P9;go_wp2_with fail;go_ret;exact⟨by rw[eA.o]<;>rfl,dm.o⟩
def qf(a b:Bt):Int:=if(fa a).2≠0\/(fa b).2≠0 then Lib.compareBytes a b else if(fa a).1<(fa b).1 then -1 else if(fa b).1<(fa a).1 then 1 else 0
theorem F7(a b:Bt)(w:World)(ha:a.length<=1000000)(hb:b.length<=1000000):
 Calls prog 207 #[.string (bs a),.string (bs b)] w fun e w'=>e=.returned (.int .i64 (qf a b))/\w=w':=by
 have HA:=bD (fun W=>sP (bs a) W (by rw[bJ];exact ha));have wB:=bD (fun W=>sP (bs b) W (by rw[bJ];exact hb));have HC:=bD (fun W=>strings_Compare (bs a) (bs b) W);rw[eB]at HA wB;have e1:(bs a).data.toList=a:=eB a;have e2:(bs b).data.toList=b:=eB b;rw[e1,e2]at HC;have HV:Hy (qf a b=if(fa a).2≠0\/(fa b).2≠0 then Lib.compareBytes a b else if(fa a).1<(fa b).1 then -1 else if(fa b).1<(fa a).1 then 1 else 0):=rfl;generalize qf a b=R at*;generalize Lib.compareBytes a b=cz at*;generalize fa a=SA at*;generalize fa b=SB at*;obtain⟨n,er⟩:=SA;obtain⟨m,es⟩:=SB;simp only at HV HA wB;clear e1 e2 ha hb;go_enter func207,ntmps207;go_wp2_with fail;refine(HA.o _).mono ?_;rintro e w2 ⟨rfl,oM⟩;have oM:=oM.symm;subst oM;go_wp2_with fail;refine(wB.o _).mono ?_;rintro e w2 ⟨rfl,oM⟩;have oM:=oM.symm;subst oM;clear HA wB;by_cases h1:er=0
 ·have b1:(er !=0)=false:=by rw[h1];rfl
  by_cases h2:es=0
  ·have b2:(es !=0)=false:=by rw[h2];rfl
   have uE:Hy (R=if n<m then -1 else if m<n then 1 else 0):=by rw[Hy,HV.o,aa (by simp[h1,h2])]
   clear HV HC h1 h2;by_cases h3:n<m
   ·have eA:Hy (R=-1):=by rw[Hy,uE.o,ae h3]
    clear uE;go_wp2_with fail;go_ret;exact⟨by rw[eA.o]<;>rfl,rfl⟩
   ·by_cases h4:m<n
    ·have eA:Hy (R=1):=by rw[Hy,uE.o,aa h3,ae h4]
     clear uE;go_wp2_with fail;go_ret;exact⟨by rw[eA.o]<;>rfl,rfl⟩
    ·have eA:Hy (R=0):=by rw[Hy,uE.o,aa h3,aa h4]
     clear uE;go_wp2_with fail;go_ret;exact⟨by rw[eA.o]<;>rfl,rfl⟩
  ·have b2:(es !=0)=true:=by rw[aQ];exact h2
   have eA:Hy (R=cz):=by rw[Hy,HV.o,ae (.inr h2)]
   clear HV h1 h2;go_wp2_with fail;refine(HC.o _).mono ?_;rintro e w2 ⟨rfl,rfl⟩;go_wp2_with fail;go_ret;exact⟨by rw[eA.o]<;>rfl,rfl⟩
 ·have b1:(er !=0)=true:=by rw[aQ];exact h1
  have eA:Hy (R=cz):=by rw[Hy,HV.o,ae (.inl h1)]
  clear HV h1;go_wp2_with fail;refine(HC.o _).mono ?_;rintro e w2 ⟨rfl,rfl⟩;go_wp2_with fail;go_ret;exact⟨by rw[eA.o]<;>rfl,rfl⟩
theorem vU{n m:Bt}(h:n=m):((bs n).toList==m)=true/\(bs n).toList=m:=by rw[bQ,h];simp
theorem vV{n m:Bt}(h:n≠m):((bs n).toList==m)=false/\¬(bs n).toList=m:=by
 rw[bQ];exact⟨ai.2 h,h⟩
def BK(s:Bt)(z:Int):Bool:=
 if s=[61,61]then z==0 else if s=[33,61]then z !=0 else if s=[60]then decide (z<0)else if s=[62]then decide (0<z)else if s=[60,61]then decide (z<=0)else decide (0<=z)
def am1(val:nK)(s:Bt):List Ex->Bool
 |[a,b]=>BK s (qf (kA val a) (kA val b))
 |_=>false
mutual
def iT(val:nK):Ex->Bool
 |.mk k n t s l=>if k=1 then n !=0 else if k=4 then !OR val l else if k=5 then !vc val l else if k=6 then vd val l else if k=7 then am1 val s l else kA val (.mk k n t s l)==[116,114,117,101]
def OR(val:nK):List Ex->Bool
 |[]=>false
 |e::_=>iT val e
def vc(val:nK):List Ex->Bool
 |[]=>false
 |e::l=>!iT val e||vc val l
def vd(val:nK):List Ex->Bool
 |[]=>false
 |e::l=>iT val e||vd val l
end
section
variable (k n:Int) (t s:Bt) (l:List Ex)
theorem am3:(Ex.mk k n t s l).kind=k:=rfl
theorem aA1:(Ex.mk k n t s l).n=n:=rfl
theorem am4:(Ex.mk k n t s l).text=t:=rfl
theorem am5:(Ex.mk k n t s l).iD=s:=rfl
theorem am6:(Ex.mk k n t s l).bE=l:=rfl
end
theorem Xy:∀{l:List Ex},l.length=1->∃a,l=[a]
 |[a],_=>⟨a,rfl⟩
theorem D5(val:nK):∀l:List Ex,l.any (fun k=>!iT val k)=vc val l
 |[]=>by rw[vc];rfl
 |e::l=>by rw[List.any_cons,D5 val l,vc]
theorem D6(val:nK):∀l:List Ex,l.any (fun k=>iT val k)=vd val l
 |[]=>by rw[vd];rfl
 |e::l=>by rw[List.any_cons,D6 val l,vd]
theorem pE{val:nK}:∀{l:List Ex} {y:Ex},nL val l=true->y∈l->lI val y=true
 |a::l,y,h,hy=>by
  rw[nL,aG]at h;rcases List.mem_cons.1 hy with rfl|hy
  ·exact h.1
  ·exact pE h.2 hy
theorem D7{val:nK}{k n:Int}{t s:Bt}{l:List Ex}(h:lI val (.mk k n t s l)=true):
 (eP (.mk k n t s l)=true/\l=[])\/(eP (.mk k n t s l)=false/\nL val l=true/\rT k s l=true):=by
 rw[lI]at h;cases hs:eP (.mk k n t s l)with
 |true=>
  rw[hs,ae rfl]at h;refine .inl ⟨rfl,?_⟩;unfold DZ at h;by_cases hl:l=[]
  ·exact hl
  ·rw[ae (.inr hl)]at h;cases h
 |false=>
  rw[hs,aa (by simp)]at h;refine .inr ⟨rfl,?_⟩;by_cases hc:n≠0\/t≠[]\/nL val l=false
  ·rw[ae hc]at h;cases h
  ·rw[aa hc]at h;refine⟨?_,h⟩;cases hw:nL val l with
   |true=>rfl
   |false=>exact aX (.inr (.inr hw)) hc
theorem RZ{val:nK}{x:Ex}(h:lI val x=true)(hs:eP x=true):x.bE=[]:=by
 obtain⟨k,n,t,s,l⟩:=x;rcases D7 h with h|h
 ·exact h.2
 ·rw[hs]at h;cases h.1
theorem OS{l:List Ex}(h:US l=true):∃a b,l=[a,b]/\eP a=true/\eP b=true:=by
 by_cases hl:l.length=2
 ·obtain⟨a,b,rfl⟩:=Qg hl;have h:(eP a&&eP b)=true:=h;rw[aG]at h;exact⟨a,b,rfl,h.1,h.2⟩
 ·rw[L2 hl]at h;cases h
def fI(v:cK):Array Value:=#[.string (bs v.e0),.string (bs v.e1),.string (bs v.e2),.string (bs v.e3),.string (bs v.e4),.string (bs v.e5)]
theorem Jw(v:cK)(val:nK)(x:Ex)(A:Option Addr)(n c E:Nat)(w:World)(hE:bL w E 23 (fI v))
 (hw:∀W,Below w.heap.size w W->Calls prog 176 #[v.val,da x (.slice A n c)] W fun e W'=>e=.returned (.bool (iT val x))/\Below W.heap.size W W'):
 Calls prog 204 #[da x (.slice A n c),.pointer (some ⟨E,0,none⟩)] w fun e w'=>e=.returned (.bool (iT val x))/\Below w.heap.size w w':=by
 have cg:=cU w (.cells (bH x (.slice A n c)).toArray 202);have HE:=bD (hE.below cg hE.lt);have HB:=bD cg;have HX:=bD (bL.new w 202 (bH x (.slice A n c)).toArray);have HW:=bD (hw _ HB.o);generalize iT val x=R at*;clear hw cg hE;simp only[da,bH,cK.val,fI]at HB HX HW HE|-;go_enter func204,ntmps204;go_upto_region 1 with(fail)
 change Code.wp _ _ _ _ (w.alloc (.cells [Value.int .i64 x.kind,.int .i64 x.n,.string (bs x.text),.string (bs x.iD),.slice A n c].toArray 202));generalize w.alloc (.cells [Value.int .i64 x.kind,.int .i64 x.n,.string (bs x.text),.string (bs x.iD),.slice A n c].toArray 202)=w1 at*;generalize nH:w.heap.size=X at*;have gg:=bD nH;clear nH;obtain⟨c0,c1,c2,c3,c4⟩:=kK HX.o;obtain⟨e0,e1,e2,e3,e4,e5⟩:=nB HE.o;simp at c0 c1 c2 c3 c4 e0 e1 e2 e3 e4 e5;go_wp2_with fail;refine HW.o.mono ?_;rintro e w2 ⟨rfl,cu⟩;have dm:Hy (Below w.heap.size w w2):=by
  have h:=HB.o;rw[<-gg.o]at h;exact h.trans (cu.mono h.size)
 clear cu;go_wp2_with fail;go_ret;exact⟨rfl,by first|exact dm.o|(rw[gg.o];exact dm.o)|(rw[<-gg.o];exact dm.o)⟩
theorem zd(v:cK)(val:nK)(x:Ex)(A:Option Addr)(n c E:Nat)(w:World)(hE:bL w E 23 (fI v))
 (hw:∀W,Below w.heap.size w W->Calls prog 176 #[v.val,da x (.slice A n c)] W fun e W'=>e=.returned (.bool (iT val x))/\Below W.heap.size W W'):
 Calls prog 205 #[da x (.slice A n c),.pointer (some ⟨E,0,none⟩)] w fun e w'=>e=.returned (.bool (!iT val x))/\Below w.heap.size w w':=by
 have cg:=cU w (.cells (bH x (.slice A n c)).toArray 202);have HE:=bD (hE.below cg hE.lt);have HB:=bD cg;have HX:=bD (bL.new w 202 (bH x (.slice A n c)).toArray);have HW:=bD (hw _ HB.o);generalize iT val x=R at*;clear hw cg hE;simp only[da,bH,cK.val,fI]at HB HX HW HE|-;go_enter func205,ntmps205;go_upto_region 1 with(fail)
 change Code.wp _ _ _ _ (w.alloc (.cells [Value.int .i64 x.kind,.int .i64 x.n,.string (bs x.text),.string (bs x.iD),.slice A n c].toArray 202));generalize w.alloc (.cells [Value.int .i64 x.kind,.int .i64 x.n,.string (bs x.text),.string (bs x.iD),.slice A n c].toArray 202)=w1 at*;generalize nH:w.heap.size=X at*;have gg:=bD nH;clear nH;obtain⟨c0,c1,c2,c3,c4⟩:=kK HX.o;obtain⟨e0,e1,e2,e3,e4,e5⟩:=nB HE.o;simp at c0 c1 c2 c3 c4 e0 e1 e2 e3 e4 e5;go_wp2_with fail;refine HW.o.mono ?_;rintro e w2 ⟨rfl,cu⟩;have dm:Hy (Below w.heap.size w w2):=by
  have h:=HB.o;rw[<-gg.o]at h;exact h.trans (cu.mono h.size)
 clear cu;go_wp2_with fail;go_ret;exact⟨rfl,by first|exact dm.o|(rw[gg.o];exact dm.o)|(rw[<-gg.o];exact dm.o)⟩
theorem L6(v:cK)(jG val:nK)(jj:qE v val)(vK:∀t:Bt,t.length<=10000->(j9 val t).1.length<=1000000):∀(m:Nat) (x:Ex) (A:Option Addr) (c:Nat) (F:Nat->Prop) (w:World),lV x<=m->m<=1000->F3 x->lI jG x=true->eK w->GR w F (.row 5 (x.bE.map Ex.gv)) [.slice A x.bE.length c]->
 Calls prog 176 #[v.val,da x (.slice A x.bE.length c)] w fun e w'=>e=.returned (.bool (iT val x))/\Below w.heap.size w w':=by
 intro m;induction m using Nat.strongRecOn with
 |ind m ih=>
 intro x A c F w hm hm2 po hwl hg hk;have Xz:=cU w (.cells (fI v) 23);have Qj:=(aF (w.alloc (.cells (fI v) 23)).heap.size (w.alloc (.cells (fI v) 23))).alloc (dv _) (.cells (bH x (.slice A x.bE.length c)).toArray 202);have cg:Below w.heap.size w ((w.alloc (.cells (fI v) 23)).alloc (.cells (bH x (.slice A x.bE.length c)).toArray 202)):=Xz.alloc (by rw[size_alloc];omega) _;have hE:=bL.new w 23 (fI v);have HE:=bD (hE.below Qj hE.lt);have HB:=bD cg;have HX:=bD (bL.new (w.alloc (.cells (fI v) 23)) 202 (bH x (.slice A x.bE.length c)).toArray);have Hg:=(AN x).1 po;have lQ:=rQ x;have RO:Hy (∀(y:Ex) (A:Option Addr) (c:Nat) (F:Nat->Prop) (W:World),y∈x.bE->lI jG y=true->Below w.heap.size w W->GR W F (.row 5 (y.bE.map Ex.gv)) [.slice A y.bE.length c]->
  Calls prog 176 #[v.val,da y (.slice A y.bE.length c)] W fun e w'=>e=.returned (.bool (iT val y))/\Below W.heap.size W w'):=by
  intro y A' c' F' W hy hwy hb cO;exact ih (lV y) (by have:=n8 hy;omega) y A' c' F' W (dv _) (by have:=n8 hy;omega) (u9 Hg.2.2.2.2 hy) hwy (hg.below hb) cO
 have Y4:=bD (fun(y:Ex) A' c' W (hb:Below w.heap.size w W) (hoy:F3 y) (hsy:eP y=true) (hwy:lI jG y=true)=>F6 v val jj y A' c' W (hg.below hb) hoy hsy (fun _=>RZ hwy hsy));have HVL:Hy (∀y:Ex,F3 y->(kA val y).length<=1000000):=by
  intro y hy;obtain⟨h1,-,h3,h4,-⟩:=(AN y).1 hy;unfold kA;split
  ·omega
  ·split
   ·exact vK _ h1
   ·have:=Ir (n:=y.n.natAbs) (by omega);unfold L5;split
    ·rw[ak];omega
    ·omega
 have ln:x.bE.length<=1000:=by
  have:∀l:List Ex,l.length<=jb l:=by
   intro l;induction l with
   |nil=>exact ax _
   |cons a l ihl=>simp only[jb,ak];have:=rQ a;omega
  have:=this x.bE;omega
 have LD:=bD ln;have M1:=bD (fun W (hb:Below w.heap.size w W)=>hk.below hb);have D2:=nf (GR.du _ _ hk);have Jt:=bD D2;have aw2:=bD po;obtain⟨xk,xn,xt,xs,l⟩:=x;have GO:=bD (D7 hwl);have HWX:=bD hwl;have am2:Hy (oI l):=Hg.2.2.2.2;have HVS:=bD (fun A' c' W hb hsy=>Y4.o (.mk xk xn xt xs l) A' c' W hb po hsy hwl);have HV:Hy (iT val (.mk xk xn xt xs l)=if xk=1 then xn !=0 else if xk=4 then !OR val l else if xk=5 then !vc val l else if xk=6 then vd val l else if xk=7 then am1 val xs l else kA val (.mk xk xn xt xs l)==[116,114,117,101]):=by rw[Hy,iT]
 generalize iT val (.mk xk xn xt xs l)=R at*;generalize kA val (.mk xk xn xt xs l)=VX at*;simp only[da,bH,am3,aA1,am4,am5,am6,cK.val]at*;clear cg Xz Qj hE po hwl hg hk Hg ih lQ ln hm D2 jj vK HWX aw2;go_enter func176,ntmps176;go_upto_region 1 with(fail)
 rw[size_alloc]at HX;change Code.wp _ _ _ _ ((w.alloc (.cells (fI v) 23)).alloc (.cells [Value.int .i64 xk,.int .i64 xn,.string (bs xt),.string (bs xs),.slice A l.length c].toArray 202));generalize(w.alloc (.cells (fI v) 23)).alloc (.cells [Value.int .i64 xk,.int .i64 xn,.string (bs xt),.string (bs xs),.slice A l.length c].toArray 202)=w1 at*;have OQ:=bD HB.o.size;have Y5:=bD HE.o;obtain⟨c0,c1,c2,c3,c4⟩:=kK HX.o;obtain⟨e0,e1,e2,e3,e4,e5⟩:=nB HE.o;simp[fI]at c0 c1 c2 c3 c4 e0 e1 e2 e3 e4 e5;by_cases k1:xk=1
 ·have b1:(xk==1)=true:=by rw[k1];rfl
  have eA:Hy (R=(xn !=0)):=by rw[Hy,HV.o,ae k1]
  clear HV k1 HVS;go_wp2_with fail;go_ret;exact⟨by rw[eA.o]<;>rfl,HB.o⟩
 have b1:(xk==1)=false:=by rw[ai];exact k1
 by_cases k4:xk=4
 ·have b4:(xk==4)=true:=by rw[k4];rfl
  have qn:nL jG l=true/\l.length=1:=by
   rcases GO.o with⟨h,-⟩|⟨-,h1,h2⟩
   ·rw[eP,k4]at h;cases h
   ·unfold rT at h2;rw[k4,aa (by decide),ae rfl,aG,aH,aH]at h2;exact⟨h1,h2.2⟩
  obtain⟨y,rfl⟩:=Xy qn.2;obtain⟨A2,c2',zF,-,-,dS⟩:=Jt.o;simp only[ak,aD]at zF;injection zF with e5 e6 e7
  subst e5 e7;obtain⟨bq,oq,rfl,G0,dS⟩:=dS (by simp);obtain⟨Aa,ca,wE⟩:=dS 0 (by simp);simp only[List.getElem_cons_zero]at wE;have wE:=wE.below HB.o G0.2;have hwy:=pE qn.1 (aV.2 rfl);have HC:=bD (zd v val y Aa y.bE.length ca w.heap.size w1 Y5.o (fun W hb=>RO.o y Aa ca _ W (aV.2 rfl) hwy (HB.o.trans (hb.mono OQ.o)) (wE.bE.below hb)));have p0:=wE.c0;have p1:=wE.c1;have p2:=wE.c2;have p3:=wE.c3;have p4:=wE.c4;simp at p0 p1 p2 p3 p4;have c4:w1.cell? ⟨w.heap.size+1,4,none⟩=some (.slice (some ⟨bq,oq,none⟩) 1 c):=c4;have eA:Hy (R=!iT val y):=by rw[Hy,HV.o,aa k1,ae k4,OR]
  generalize iT val y=RY at*;clear HV k1 k4 wE dS G0 hwy qn HVS GO RO Y4 HVL M1 Jt;simp only[da,bH]at HC;go_wp2_with fail;refine HC.o.mono ?_;rintro e w2 ⟨rfl,cu⟩;have dm:=bD (HB.o.trans (cu.mono OQ.o));clear cu;go_wp2_with fail;go_ret;exact⟨by rw[eA.o]<;>rfl,dm.o⟩
 have b4:(xk==4)=false:=by rw[ai];exact k4
 by_cases k5:xk=5
 ·have b5:(xk==5)=true:=by rw[k5];rfl
  have tF:nL jG l=true:=by
   rcases GO.o with⟨h,-⟩|⟨-,h1,h2⟩
   ·rw[eP,k5]at h;cases h
   ·exact h1
  have HC:=bD (rS (fun k=>!iT val k) 205 w.heap.size l _ F w1 (by have:=LD.o;omega) (fun _ _=>by kernel_rfl) (M1.o w1 HB.o)
   (fun y A' c' F' W hy hb cO=>zd v val y A' _ c' w.heap.size W (Y5.o.below hb Y5.o.lt) (fun W2 cu=>RO.o y A' c' F' W2 hy (pE tF hy) (HB.o.trans ((hb.trans (cu.mono hb.size)).mono OQ.o)) (cO.below cu))))
  rw[D5]at HC;have eA:Hy (R=!vc val l):=by rw[Hy,HV.o,aa k1,aa k4,ae k5]
  generalize vc val l=RY at*;clear HV k1 k4 k5 tF HVS GO RO Y4 HVL M1 Jt;go_wp2_with fail;refine HC.o.mono ?_;rintro e w2 ⟨rfl,cu⟩;have dm:=bD (HB.o.trans (cu.mono OQ.o));clear cu;go_wp2_with fail;go_ret;exact⟨by rw[eA.o]<;>rfl,dm.o⟩
 have b5:(xk==5)=false:=by rw[ai];exact k5
 by_cases k6:xk=6
 ·have b6:(xk==6)=true:=by rw[k6];rfl
  have tF:nL jG l=true:=by
   rcases GO.o with⟨h,-⟩|⟨-,h1,h2⟩
   ·rw[eP,k6]at h;cases h
   ·exact h1
  have HC:=bD (rS (fun k=>iT val k) 204 w.heap.size l _ F w1 (by have:=LD.o;omega) (fun _ _=>by kernel_rfl) (M1.o w1 HB.o)
   (fun y A' c' F' W hy hb cO=>Jw v val y A' _ c' w.heap.size W (Y5.o.below hb Y5.o.lt) (fun W2 cu=>RO.o y A' c' F' W2 hy (pE tF hy) (HB.o.trans ((hb.trans (cu.mono hb.size)).mono OQ.o)) (cO.below cu))))
  rw[D6]at HC;have eA:Hy (R=vd val l):=by rw[Hy,HV.o,aa k1,aa k4,aa k5,ae k6]
  generalize vd val l=RY at*;clear HV k1 k4 k5 k6 tF HVS GO RO Y4 HVL M1 Jt;go_wp2_with fail;refine HC.o.mono ?_;rintro e w2 ⟨rfl,cu⟩;have dm:=bD (HB.o.trans (cu.mono OQ.o));clear cu;go_wp2_with fail;go_ret;exact⟨by rw[eA.o]<;>rfl,dm.o⟩
 have b6:(xk==6)=false:=by rw[ai];exact k6
 by_cases k7:xk=7
 ·have b7:(xk==7)=true:=by rw[k7];rfl
  have Cx:nL jG l=true/\US l=true:=by
   rcases GO.o with⟨h,-⟩|⟨-,h1,h2⟩
   ·rw[eP,k7]at h;cases h
   ·unfold rT at h2;rw[ae k7,aG]at h2;exact⟨h1,h2.2⟩
  obtain⟨ya,yb,rfl,hsa,E5⟩:=OS Cx.2;have hwa:=pE Cx.1 (show ya∈[ya,yb] by simp);have hwb:=pE Cx.1 (show yb∈[ya,yb] by simp);have hoa:=u9 am2.o (show ya∈[ya,yb] by simp);have Np:=u9 am2.o (show yb∈[ya,yb] by simp);obtain⟨A2,c2',zF,-,-,dS⟩:=Jt.o;simp only[ak,aD]at zF;injection zF with e5 e6 e7
  subst e5 e7;obtain⟨bq,oq,rfl,G0,dS⟩:=dS (by simp);obtain⟨Aa,ca,wE⟩:=dS 0 (by simp);obtain⟨Ab,cb,Ju⟩:=dS 1 (by simp);simp only[List.getElem_cons_zero,List.getElem_cons_succ]at wE Ju;have wE:=wE.below HB.o G0.2;have Ju:=Ju.below HB.o G0.2;have p0:=wE.c0;have p1:=wE.c1;have p2:=wE.c2;have p3:=wE.c3;have p4:=wE.c4;have r0:=Ju.c0;have r1:=Ju.c1;have r2:=Ju.c2;have r3:=Ju.c3;have r4:=Ju.c4;simp at p0 p1 p2 p3 p4 r0 r1 r2 r3 r4;have c4:w1.cell? ⟨w.heap.size+1,4,none⟩=some (.slice (some ⟨bq,oq,none⟩) 2 c):=c4;have GL:Hy (∀d os,_):=fun d os=>Calls.regrown_of (Y4.o ya Aa ca (Go.Sort.grow (redrawn w1 d) os) (HB.o.trans ((below_regrown w1 d os).mono OQ.o)) hoa hsa hwa);have Y0:Hy (∀d os,_):=fun d os=>Calls.regrown_of (Y4.o yb Ab cb (Go.Sort.grow (redrawn w1 d) os) (HB.o.trans ((below_regrown w1 d os).mono OQ.o)) Np E5 hwb);have HQC:Hy (∀d os,Calls prog 207 #[.string (bs (kA val ya)),.string (bs (kA val yb))] (Go.Sort.grow (redrawn w1 d) os) fun e w'=>e=.returned (.int .i64 (qf (kA val ya) (kA val yb)))/\∃p:Regrown,w'=Go.Sort.grow (redrawn w1 p.d) p.os):=
   fun d os=>(F7 _ _ _ (HVL.o ya hoa) (HVL.o yb Np)).mono (fun e w' h=>⟨h.1,⟨d,os⟩,h.2.symm⟩)
  have tN:Hy (R=BK xs (qf (kA val ya) (kA val yb))):=by rw[Hy,HV.o,aa k1,aa k4,aa k5,aa k6,ae k7];rfl
  try simp only[da,bH]at GL Y0
  generalize kA val ya=va at*;generalize kA val yb=vb at*;generalize qf va vb=z at*;clear HV k1 k4 k5 k6 k7 wE Ju dS G0 hwa hwb hoa Np hsa E5 Cx HVS GO RO Y4 HVL M1 Jt;have f4:=cell_regrown c4;have f3:=cell_regrown c3;have fe0:=cell_regrown e0;have fe1:=cell_regrown e1;have fe2:=cell_regrown e2;have fe3:=cell_regrown e3;have fe4:=cell_regrown e4;have fe5:=cell_regrown e5;have fp0:=cell_regrown p0;have fp1:=cell_regrown p1;have fp2:=cell_regrown p2;have fp3:=cell_regrown p3;have fp4:=cell_regrown p4;have fr0:=cell_regrown r0;have fr1:=cell_regrown r1;have fr2:=cell_regrown r2;have fr3:=cell_regrown r3;have fr4:=cell_regrown r4;go_upto_region 13 with(fail)
  refine wp_region_quiet_below (by kernel_rfl) (by kernel_rfl) ?_;quiet_step (exact GL.o _ _);quiet_step (exact GL.o _ _);quiet_step (exact GL.o _ _);quiet_step (exact GL.o _ _);quiet_step (exact GL.o _ _);quiet_step (exact GL.o _ _);quiet_step (exact GL.o _ _);quiet_step (exact GL.o _ _);quiet_step (exact GL.o _ _);quiet_step (exact GL.o _ _);quiet_step (exact GL.o _ _);quiet_step (exact Y0.o _ _);quiet_step (exact HQC.o _ _);quiet_step (exact HQC.o _ _);refine wpQuiet_nil ?_;intro _ hw';obtain⟨⟨dq,osq⟩,Uo⟩:=hw';subst Uo;have dm:=bD (HB.o.trans ((below_regrown w1 dq osq).mono OQ.o));have s3:=f3 dq osq;clear f4 f3 fe0 fe1 fe2 fe3 fe4 fe5 fp0 fp1 fp2 fp3 fp4 fr0 fr1 fr2 fr3 fr4 GL Y0 HQC p0 p1 p2 p3 p4 r0 r1 r2 r3 r4 e0 e1 e2 e3 e4 e5 c0 c1 c2 c3 c4 HB;have HB:=dm;clear dm;simp only at HB s3|-;generalize Go.Sort.grow (redrawn w1 dq) osq=w3 at*;by_cases s1:xs=[61,61]
  ·obtain⟨f1,f1'⟩:=vU s1;have eA:Hy (R=(z==0)):=by rw[Hy,tN.o,BK,ae s1]
   clear tN s1;go_wp2_with fail;go_ret;exact⟨by rw[eA.o]<;>rfl,HB.o⟩
  obtain⟨f1,f1'⟩:=vV s1;by_cases s2:xs=[33,61]
  ·obtain⟨f2,f2'⟩:=vU s2;have eA:Hy (R=(z !=0)):=by rw[Hy,tN.o,BK,aa s1,ae s2]
   clear tN s1 s2;go_wp2_with fail;go_ret;exact⟨by rw[eA.o]<;>rfl,HB.o⟩
  obtain⟨f2,f2'⟩:=vV s2;by_cases s4:xs=[60]
  ·obtain⟨f4,f4'⟩:=vU s4;have eA:Hy (R=decide (z<0)):=by rw[Hy,tN.o,BK,aa s1,aa s2,ae s4]
   clear tN s1 s2 s4;go_wp2_with fail;go_ret;exact⟨by rw[eA.o]<;>rfl,HB.o⟩
  obtain⟨f4,f4'⟩:=vV s4;by_cases s5:xs=[62]
  ·obtain⟨f5,f5'⟩:=vU s5;have eA:Hy (R=decide (0<z)):=by rw[Hy,tN.o,BK,aa s1,aa s2,aa s4,ae s5]
   clear tN s1 s2 s4 s5;go_wp2_with fail;go_ret;exact⟨by rw[eA.o]<;>rfl,HB.o⟩
  obtain⟨f5,f5'⟩:=vV s5;by_cases s6:xs=[60,61]
  ·obtain⟨f6,f6'⟩:=vU s6;have eA:Hy (R=decide (z<=0)):=by rw[Hy,tN.o,BK,aa s1,aa s2,aa s4,aa s5,ae s6]
   clear tN s1 s2 s4 s5 s6;go_wp2_with fail;go_ret;exact⟨by rw[eA.o]<;>rfl,HB.o⟩
  obtain⟨f6,f6'⟩:=vV s6;have eA:Hy (R=decide (0<=z)):=by rw[Hy,tN.o,BK,aa s1,aa s2,aa s4,aa s5,aa s6]
  clear tN s1 s2 s4 s5 s6;go_wp2_with fail;go_ret;exact⟨by rw[eA.o]<;>rfl,HB.o⟩
 have b7:(xk==7)=false:=by rw[ai];exact k7
 have hsy:eP (.mk xk xn xt xs l)=true:=by
  rcases GO.o with⟨h,-⟩|⟨-,h1,h2⟩
  ·exact h
  ·unfold rT at h2;rw[aa k7,aa k4,aa (fun h=>h.elim k5 k6)]at h2;cases h2
 have HC:=bD (HVS.o A c w1 HB.o hsy);have tN:Hy (R=(VX==[116,114,117,101])):=by rw[Hy,HV.o,aa k1,aa k4,aa k5,aa k6,aa k7]
 clear HV k1 k4 k5 k6 k7 HVS GO RO Y4 HVL M1 Jt hsy;by_cases s1:VX=[116,114,117,101]
 ·obtain⟨f1,f1'⟩:=vU s1;have eA:Hy (R=true):=by rw[Hy,tN.o,s1];rfl
  clear tN s1;go_wp2_with fail;refine HC.o.mono ?_;rintro e w2 ⟨rfl,cu⟩;have dm:=bD (HB.o.trans (cu.mono OQ.o));clear cu;go_wp2_with fail;go_ret;exact⟨by rw[eA.o]<;>rfl,dm.o⟩
 ·obtain⟨f1,f1'⟩:=vV s1;have eA:Hy (R=false):=by rw[Hy,tN.o];exact ai.2 s1
  clear tN s1;go_wp2_with fail;refine HC.o.mono ?_;rintro e w2 ⟨rfl,cu⟩;have dm:=bD (HB.o.trans (cu.mono OQ.o));clear cu;go_wp2_with fail;go_ret;exact⟨by rw[eA.o]<;>rfl,dm.o⟩
def D8(jG val:nK)(x:Ex):Bool × Int:=if s7 jG x then(iT val x,0)else(false,1)
theorem Jx(v:cK)(jG val:nK)(zf:qE y7 jG)(jj:qE v val)(vK:∀t:Bt,t.length<=10000->(j9 val t).1.length<=1000000)(x:Ex)(A:Option Addr)(c:Nat)(F:Nat->Prop)(w:World)(po:F3 x)(hg:eK w)
 (hk:GR w F (.row 5 (x.bE.map Ex.gv)) [.slice A x.bE.length c]):
 Calls prog 151 #[v.val,da x (.slice A x.bE.length c)] w fun e w'=>e=.returned (.tuple #[.bool (D8 jG val x).1,.int .i64 (D8 jG val x).2])/\Below w.heap.size w w':=by
 have Xz:=cU w (.cells (fI v) 23);have Qj:=(aF (w.alloc (.cells (fI v) 23)).heap.size (w.alloc (.cells (fI v) 23))).alloc (dv _) (.cells (bH x (.slice A x.bE.length c)).toArray 202);have cg:Below w.heap.size w ((w.alloc (.cells (fI v) 23)).alloc (.cells (bH x (.slice A x.bE.length c)).toArray 202)):=Xz.alloc (by rw[size_alloc];omega) _;have hE:=bL.new w 23 (fI v);have HE:=bD (hE.below Qj hE.lt);have HB:=bD cg;have HX:=bD (bL.new (w.alloc (.cells (fI v) 23)) 202 (bH x (.slice A x.bE.length c)).toArray);have HRG:=bD (fun W (hb:Below w.heap.size w W)=>F5 jG zf x A c F W po (hg.below hb) (hk.below hb));have HHD:=bD (fun(h:s7 jG x=true) W (hb:Below w.heap.size w W)=>L6 v jG val jj vK (lV x) x A c F W (dv _) (by
  unfold s7 at h;simp only[aG]at h;have:=AK h.1.1;omega) po (by
  unfold s7 at h;simp only[aG]at h;exact h.1.2) (hg.below hb) (hk.below hb))
 have HV:Hy (D8 jG val x=if s7 jG x then(iT val x,0)else(false,1)):=rfl;generalize D8 jG val x=R at*;generalize Us:s7 jG x=rr at*;generalize iT val x=hh at*;clear Us cg Xz Qj hE po hg hk zf jj vK;simp only[da,bH,cK.val]at*;go_enter func151,ntmps151;go_upto_region 1 with(fail)
 rw[size_alloc]at HX;change Code.wp _ _ _ _ ((w.alloc (.cells (fI v) 23)).alloc (.cells [Value.int .i64 x.kind,.int .i64 x.n,.string (bs x.text),.string (bs x.iD),.slice A x.bE.length c].toArray 202));generalize(w.alloc (.cells (fI v) 23)).alloc (.cells [Value.int .i64 x.kind,.int .i64 x.n,.string (bs x.text),.string (bs x.iD),.slice A x.bE.length c].toArray 202)=w1 at*;have OQ:=bD HB.o.size;generalize nH:w.heap.size=X at*;have gg:=bD nH;clear nH;obtain⟨c0,c1,c2,c3,c4⟩:=kK HX.o;obtain⟨e0,e1,e2,e3,e4,e5⟩:=nB HE.o;simp[fI]at c0 c1 c2 c3 c4 e0 e1 e2 e3 e4 e5;have HC:=bD (HRG.o w1 HB.o);cases rr with
 |false=>
  have eA:Hy (R=(false,1)):=by rw[Hy,HV.o];rfl
  clear HV;go_wp2_with fail;refine HC.o.mono ?_;rintro e w9 ⟨rfl,fq⟩;have lP:=bD (HB.o.trans (fq.mono (by have h:=HB.o.size;rw[gg.o]at h;exact h)));have qv:=bD (HX.o.below fq HX.o.lt);have GK:=bD (HE.o.below fq HE.o.lt);clear fq HB HX HE c0 c1 c2 c3 c4 e0 e1 e2 e3 e4 e5;obtain⟨w1,rfl⟩:∃w1:World,w1=w9:=⟨_,rfl⟩;have HB:=lP;have HX:=qv;have HE:=GK;clear lP qv GK;obtain⟨c0,c1,c2,c3,c4⟩:=kK HX.o;obtain⟨e0,e1,e2,e3,e4,e5⟩:=nB HE.o;simp[fI]at c0 c1 c2 c3 c4 e0 e1 e2 e3 e4 e5;go_wp2_with fail;go_ret2;exact⟨by rw[eA.o]<;>rfl,by rw[gg.o];exact HB.o⟩
 |true=>
  have eA:Hy (R=(hh,0)):=by rw[Hy,HV.o];rfl
  clear HV;go_upto_region 3 with(refine HC.o.mono ?_;rintro e w9 ⟨rfl,fq⟩)
  have lP:=bD (HB.o.trans (fq.mono (by have h:=HB.o.size;rw[gg.o]at h;exact h)));have qv:=bD (HX.o.below fq HX.o.lt);have GK:=bD (HE.o.below fq HE.o.lt);clear fq HB HX HE c0 c1 c2 c3 c4 e0 e1 e2 e3 e4 e5;obtain⟨w1,rfl⟩:∃w1:World,w1=w9:=⟨_,rfl⟩;have HB:=lP;have HX:=qv;have HE:=GK;clear lP qv GK HC;obtain⟨c0,c1,c2,c3,c4⟩:=kK HX.o;obtain⟨e0,e1,e2,e3,e4,e5⟩:=nB HE.o;simp[fI]at c0 c1 c2 c3 c4 e0 e1 e2 e3 e4 e5;have HC:=bD (HHD.o (by first|rfl|trivial) w1 HB.o);go_wp2_with fail;refine HC.o.mono ?_;rintro e w9 ⟨rfl,fq⟩;have lP:=bD (HB.o.trans (fq.mono (by have h:=HB.o.size;rw[gg.o]at h;exact h)));have qv:=bD (HX.o.below fq HX.o.lt);have GK:=bD (HE.o.below fq HE.o.lt);clear fq HB HX HE c0 c1 c2 c3 c4 e0 e1 e2 e3 e4 e5;obtain⟨w1,rfl⟩:∃w1:World,w1=w9:=⟨_,rfl⟩;have HB:=lP;have HX:=qv;have HE:=GK;clear lP qv GK;obtain⟨c0,c1,c2,c3,c4⟩:=kK HX.o;obtain⟨e0,e1,e2,e3,e4,e5⟩:=nB HE.o;simp[fI]at c0 c1 c2 c3 c4 e0 e1 e2 e3 e4 e5;go_wp2_with fail;go_ret2;exact⟨by rw[eA.o]<;>rfl,by rw[gg.o];exact HB.o⟩
def L7(jG val:nK)(s:Bt):Bool × Int:=if(ob jG s).2≠0 then(false,(ob jG s).2)else D8 jG val (ob jG s).1
theorem Jy(v:cK)(jG val:nK)(zf:qE y7 jG)(jj:qE v val)(vK:∀t:Bt,t.length<=10000->(j9 val t).1.length<=1000000)(s:Bt)(hs:s.length<=10000000)(w:World)(hg:eK w):
 Calls prog 111 #[v.val,.string (bs s)] w fun e w'=>e=.returned (.tuple #[.bool (L7 jG val s).1,.int .i64 (L7 jG val s).2])/\Below w.heap.size w w':=by
 have Xz:=cU w (.cells (fI v) 23);have HE:=bD (bL.new w 23 (fI v));have HB:=bD Xz;have HG:=bD (hg.below Xz);have HV:Hy (L7 jG val s=if(ob jG s).2≠0 then(false,(ob jG s).2)else D8 jG val (ob jG s).1):=rfl;have HP:=bD (fun W hg=>F4 jG zf s hs W hg);have HEV:=bD (fun A c F W hg hk=>Jx v jG val zf jj vK (ob jG s).1 A c F W (RX jG s) hg hk);generalize L7 jG val s=R at*;generalize ob jG s=PX at*;obtain⟨x,be⟩:=PX;simp only at HV HEV;generalize D8 jG val x=EX at*;clear hs hg zf jj vK Xz;simp only[cK.val]at*;go_enter func111,ntmps111;go_upto_region 1 with(fail)
 change Code.wp _ _ _ _ (w.alloc (.cells (fI v) 23));generalize w.alloc (.cells (fI v) 23)=w1 at*;generalize nH:w.heap.size=X at*;have gg:=bD nH;clear nH;have HC:=bD (HP.o w1 HG.o);go_wp2_with fail;refine HC.o.mono ?_;rintro e w2 ⟨A,c,rfl,fA,cu⟩;simp only[da,bH]at fA|-;have dm:=HB.o.trans (cu.mono (by have h:=HB.o.size;rw[gg.o]at h;exact h));have Cn:=HE.o.below cu HE.o.lt;have nQ:=HG.o.below cu;have Qj:=cU w2 (.cells (bH x (.slice A x.bE.length c)).toArray 202);have HX:=bD (bL.new w2 202 (bH x (.slice A x.bE.length c)).toArray);have gI:=bD (dm.trans (Qj.mono (by have h:=dm.size;rw[gg.o]at h;exact h)));have HE3:=bD (Cn.below Qj Cn.lt);have ud:=bD (nQ.below Qj);have YZ:=bD (fA.below Qj);clear fA cu dm Cn nQ Qj HB HE HG HC HP;simp only[bH]at HX gI HE3 ud YZ;go_upto_region 2 with(fail)
 change Code.wp _ _ _ _ (w2.alloc (.cells [Value.int .i64 x.kind,.int .i64 x.n,.string (bs x.text),.string (bs x.iD),.slice A x.bE.length c].toArray 202));generalize w2.alloc (.cells [Value.int .i64 x.kind,.int .i64 x.n,.string (bs x.text),.string (bs x.iD),.slice A x.bE.length c].toArray 202)=w3 at*;generalize w2.heap.size=Y at*;obtain⟨c0,c1,c2,c3,c4⟩:=kK HX.o;obtain⟨e0,e1,e2,e3,e4,e5⟩:=nB HE3.o;simp[fI]at c0 c1 c2 c3 c4 e0 e1 e2 e3 e4 e5;by_cases GM:be=0
 ·subst GM;have eA:Hy (R=EX):=by rw[Hy,HV.o,aa (by simp)]
  clear HV;have HC:=bD (HEV.o A c _ w3 ud.o YZ.o);simp only[da,bH]at HC;go_wp2_with fail;refine HC.o.mono ?_;rintro e w9 ⟨rfl,fq⟩;have lP:=bD (gI.o.trans (fq.mono (by have h:=gI.o.size;rw[gg.o]at h;exact h)));clear fq gI HX HE3 c0 c1 c2 c3 c4 e0 e1 e2 e3 e4 e5;go_wp2_with fail;go_ret2;exact⟨by rw[eA.o]<;>rfl,by rw[gg.o];exact lP.o⟩
 ·have hb:(be !=0)=true:=by rw[aQ];exact GM
  have eA:Hy (R=(false,be)):=by rw[Hy,HV.o,ae GM]
  clear HV GM;go_wp2_with fail;go_ret2;exact⟨by rw[eA.o]<;>rfl,by rw[gg.o];exact gI.o⟩
end Go.Proofs.YtejafaaihodehaaGreatDoor
