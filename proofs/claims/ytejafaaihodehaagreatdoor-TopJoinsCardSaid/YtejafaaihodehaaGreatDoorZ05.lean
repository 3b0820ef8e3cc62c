/- Part 5. -/
import Derived.Test.YtejafaaihodehaaGreatDoorZ04
set_option linter.all false
set_option maxRecDepth 100000
set_option maxHeartbeats 8000000
namespace Go.Proofs.YtejafaaihodehaaGreatDoor
open Go Go.RowKit Tryz
theorem Tm{u:eG}(h:u.path.any qP=true):gp u=false:=by unfold gp okF;rw[h];rfl
theorem QE{u:eG}(h:u.cI.any qP=true):gp u=false:=by unfold gp okF;rw[h];simp
theorem Wh{u:eG}(h:decide (0<=Lib.indexByte u.path 63)=true):gp u=false:=by unfold gp okF;rw[h];simp
theorem Wi{u:eG}(h1:u.asks=false)(h2:u.cI.isEmpty=false):gp u=false:=by unfold gp okF;rw[h1,h2];simp
theorem Wj{u:eG}(h:¬0<=u.port):gp u=false:=by unfold gp okF;rw[aT h];simp
theorem Tn{u:eG}(h:¬u.port<=65535):gp u=false:=by unfold gp okF;rw[aT h];simp
theorem Wk{u:eG}(h:¬(lL u).length<=500):gp u=false:=by unfold gp okF;rw[aT h];simp
theorem Wl{u:eG}(h1:u.path.any qP=false)(h2:u.cI.any qP=false)(h3:decide (0<=Lib.indexByte u.path 63)=false)(h4:u.asks=true\/u.cI.isEmpty=true)(h5:0<=u.port)(h6:u.port<=65535)(h7:(lL u).length<=500):okF u=true:=by
 unfold okF;rw[h1,h2,h3,aS h5,aS h6,aS h7];rcases h4 with h4|h4<;>rw[h4]<;>simp
theorem mU(u:eG)(hs:u.kB)(w:World)(hg:eK w):
 Calls prog 35 #[u.val] w fun e w'=>e=.returned (.bool (gp u))/\Below w.heap.size w w':=by
 have HS:=bD hs;have HO:=bD (fun W (hp:0<=u.port) (hg:eK W)=>yo u hs hp W hg);have HUP:=bD (Tm (u:=u));have HUQ:=bD (QE (u:=u));have HUA:=bD (Wh (u:=u));have HUN:=bD (Wi (u:=u));have HUG:=bD (Wj (u:=u));have HUO:=bD (Tn (u:=u));have HUL:=bD (Wk (u:=u));have HUX:=bD (Wl (u:=u));have HUE:Hy (gp u=(okF u&&(if u.mA then CR u.eX&&Lib.hasPrefix u.path [47]else u.eX.isEmpty&&(decide (u.port=0)&&(!Lib.hasPrefix u.path [47,47]&&!decide (0<=Lib.indexByte (Lib.cut u.path [47]).1 58)))))):=rfl;obtain⟨mA,eX,port,path,asks,cI⟩:=u;simp only[eG.val]at*;generalize gp ⟨mA,eX,port,path,asks,cI⟩=R at*;generalize okF ⟨mA,eX,port,path,asks,cI⟩=OK at*;have HWL:Hy ((bs (lL ⟨mA,eX,port,path,asks,cI⟩)).size=(lL ⟨mA,eX,port,path,asks,cI⟩).length):=bJ _;generalize lL ⟨mA,eX,port,path,asks,cI⟩=WR at*;have HX:=bD (bL.new w 64 #[.bool mA,.string (bs eX),.int .i64 port,.string (bs path),.bool asks,.string (bs cI)]);have HB:=bD (cU w (.cells #[.bool mA,.string (bs eX),.int .i64 port,.string (bs path),.bool asks,.string (bs cI)] 64));have HG:=bD (hg.below (cU w (.cells #[.bool mA,.string (bs eX),.int .i64 port,.string (bs path),.bool asks,.string (bs cI)] 64)));have hpa:(bs path).size<=100000:=by rw[bJ];exact HS.o.2.1
 have hqu:(bs cI).size<=100000:=by rw[bJ];exact HS.o.2.2.1
 have Wm:=bD hpa;have HQU:=bD hqu;clear hs hg hpa hqu;go_enter func35,ntmps35;go_wp2_with fail;refine(yj (bs path) _ Wm.o).mono ?_;rintro e w1 ⟨rfl,dG⟩;rw[eB];have Gq:=bD (HX.o.below dG HX.o.lt);have hJ:=bD (HB.o.trans (dG.mono HB.o.size));have tj:=bD (HG.o.below dG);obtain⟨aq8,aq9,ar0,ar1,ar2,ar3⟩:=nB Gq.o;clear dG HX HB HG;cases hq1:path.any qP with
 |true=>
  have HF:=bD (HUP.o hq1);clear hq1;go_wp2_with fail;go_ret;exact⟨cH (HF.o).symm,hJ.o⟩
 |false=>
  have Q1:=bD hq1;clear hq1;go_wp2_with fail;refine(yj (bs cI) _ HQU.o).mono ?_;rintro e w2 ⟨rfl,cu⟩;rw[eB];have iL:=bD (Gq.o.below cu Gq.o.lt);have dm:=bD (hJ.o.trans (cu.mono hJ.o.size));have nQ:=bD (tj.o.below cu);obtain⟨aB4,aB5,aB6,aB7,aB8,aB9⟩:=nB iL.o;clear cu Gq hJ tj aq8 aq9 ar0 ar1 ar2 ar3;cases xo:cI.any qP with
  |true=>
   have HF:=bD (HUQ.o xo);clear xo;go_wp2_with fail;go_ret;exact⟨cH (HF.o).symm,dm.o⟩
  |false=>
   have Q2:=bD xo;clear xo;go_wp2_with fail;refine(strings_Contains_one (bs path) 63 w2).mono ?_;rintro e w3 ⟨rfl,tE⟩;have tE:=tE.symm;subst tE;rw[ga];cases Gr:decide (0<=Lib.indexByte path 63)with
   |true=>
    have HF:=bD (HUA.o Gr);clear Gr;go_wp2_with fail;go_ret;exact⟨cH (HF.o).symm,dm.o⟩
   |false=>
    have Q3:=bD Gr;clear Gr;have HNQ:Hy (asks=true\/cI.isEmpty=true)\/(asks=false/\cI.isEmpty=false):=by
     cases asks
     ·cases h:cI.isEmpty
      ·exact .inr ⟨rfl,rfl⟩
      ·exact .inl (.inr rfl)
     ·exact .inl (.inl rfl)
    rcases HNQ with Q4|⟨q4,q5⟩
    ·have hA:∀{Z:Prop},(asks=true->Z)->(asks=false->(bs cI).toList=[]->(bs cI).toList.isEmpty=true->Z)->Z:=by
      intro Z h1 h2;rw[bQ]at h2;cases h:asks
      ·have h3:cI=[]:=by
        rcases Q4.o with h4|h4
        ·rw[h]at h4;cases h4
        ·simpa using h4
       exact h2 h h3 (by rw[h3];rfl)
      ·exact h1 h
     by_cases q6:0<=port
     ·by_cases q7:port<=65535
      ·have q6i:¬port<0:=by omega
       have q7i:¬65535<port:=by omega
       have Q6:=bD q6;have Q7:=bD q7;clear q6 q7;have B8:Hy ((WR.length<=500/\¬(500:Int)<((bs WR).size:Int))\/(¬WR.length<=500/\(500:Int)<((bs WR).size:Int))):=by
        have:=HWL.o;rw[Hy,this];omega
       have Is:=bD (HO.o w2 Q6.o nQ.o);have ag6:Hy (∀{Q:Ending->World->Prop},(∀w',Below w2.heap.size w2 w'->Q (.returned (.string (bs WR))) w')->Calls prog 58 #[.agg #[.bool mA,.string (bs eX),.int .i64 port,.string (bs path),.bool asks,.string (bs cI)]] w2 Q):=by
        intro Q h;refine Is.o.mono ?_;rintro e w' ⟨rfl,hb⟩;exact h w' hb
       clear Is HO;have It:Hy (∀(W:World),Below w.heap.size w W->eK W->bL W w.heap.size 64 #[.bool mA,.string (bs eX),.int .i64 port,.string (bs path),.bool asks,.string (bs cI)]->True):=fun _ _ _ _=>trivial;rcases B8.o with⟨q8,q9⟩|⟨q8,q9⟩
       ·have HOK:=bD (HUX.o Q1.o Q2.o Q3.o Q4.o Q6.o Q7.o q8);clear q8;refine hA (fun X8=>?_) (fun X8 q11 q12=>?_)
        all_goals
         try subst X8
         go_wp2_with fail;refine ag6.o ?_;intro w4 eY;have nx:=bD (iL.o.below eY iL.o.lt);have iW:=bD (dm.o.trans (eY.mono dm.o.size));have qO:=bD (nQ.o.below eY);obtain⟨ag7,ag8,ag9,ah0,ah1,ah2⟩:=nB nx.o;clear eY iL dm nQ;cases mA with
         |true=>
          have HR:Hy (R=(CR eX&&Lib.hasPrefix path [47])):=by rw[Hy,HUE.o,HOK.o,Bool.true_and];rfl
          clear HUE;go_wp2_with fail;refine(Kq (bs eX) w4).mono ?_;rintro e w5 ⟨rfl,kM⟩;rw[eB];have sl:=bD (nx.o.below kM nx.o.lt);have kf:=bD (iW.o.trans (kM.mono iW.o.size));have tP:=bD (qO.o.below kM);have ar4:=sl.o.cell 3;clear kM nx iW qO ag7 ag8 ag9 ah0 ah1 ah2;cases hh:CR eX with
          |true=>
           have gN:Hy (R=Lib.hasPrefix path [47]):=by rw[Hy,HR.o,hh];rfl
           go_wp2_with fail;refine(strings_HasPrefix (bs path) ⟨#[47]⟩ w5).mono ?_;rintro e w6 ⟨rfl,To⟩;have To:=To.symm;subst To;rw[ga];go_wp2_with fail;go_ret;exact⟨cH gN.o.symm,kf.o⟩
          |false=>
           have gN:Hy (R=false):=by rw[Hy,HR.o,hh];rfl
           go_wp2_with fail;go_ret;exact⟨cH (gN.o).symm,kf.o⟩
         |false=>
          have HR:Hy (R=(eX.isEmpty&&(decide (port=0)&&(!Lib.hasPrefix path [47,47]&&!decide (0<=Lib.indexByte (Lib.cut path [47]).1 58))))):=by rw[Hy,HUE.o,HOK.o,Bool.true_and];rfl
          clear HUE;obtain⟨m,hm⟩:=qO.o.1;have HM:=bD hm;clear hm;go_wp2_with fail;refine(strings_Cut (bs path) ⟨#[47]⟩ m w4 (by have:=Wm.o;omega) HM.o).mono ?_;rintro e w5 ⟨rfl,n,tF⟩;rw[ga];have kf:Hy (Below w.heap.size w w5):=by rw[Hy,tF];exact⟨iW.o.os,iW.o.tape,iW.o.output,iW.o.size,iW.o.block⟩
          have E4:=nx.o.drewN n;rw[<-tF]at E4;have sl:=bD E4;clear E4;have ah3:=sl.o.cell 1;have aC0:=sl.o.cell 2;have ar4:=sl.o.cell 3;clear tF ag7 ag8 ag9 ah0 ah1 ah2 HM qO iW nx;rw[show(⟨#[47]⟩:ByteArray).data.toList=[47]from rfl]at*;generalize(Lib.cut path [47]).1=fs at*;cases hz:eX with
          |cons c0 cs0=>
           have e1:(bs (c0::cs0)).toList.isEmpty=false:=by rw[bQ];rfl
           have e2:¬(bs (c0::cs0)).toList=[]:=by rw[bQ];simp
           rw[hz]at ah3;have gN:Hy (R=false):=by rw[Hy,HR.o,hz];rfl
           clear hz;go_wp2_with fail;go_ret;exact⟨cH (gN.o).symm,kf.o⟩
          |nil=>
           have e1:(bs []).toList.isEmpty=true:=by rw[bQ];rfl
           have e2:(bs []).toList=[]:=by rw[bQ]
           rw[hz]at ah3;have gN:Hy (R=(decide (port=0)&&(!Lib.hasPrefix path [47,47]&&!decide (0<=Lib.indexByte fs 58)))):=by rw[Hy,HR.o,hz];rfl
           clear hz;by_cases h0:port=0
           ·have yp:Hy (R=(!Lib.hasPrefix path [47,47]&&!decide (0<=Lib.indexByte fs 58))):=by rw[Hy,gN.o,aS h0,Bool.true_and]
            have b0:(port==0)=true:=by rw[h0];rfl
            clear h0;go_wp2_with fail;refine(strings_HasPrefix (bs path) ⟨#[47,47]⟩ w5).mono ?_;rintro e w6 ⟨rfl,To⟩;have To:=To.symm;subst To;rw[ga];have hq:(⟨#[47,47]⟩:ByteArray).data.toList=[47,47]:=rfl;rw[hq];cases hh:Lib.hasPrefix path [47,47]with
            |true=>
             have gN:Hy (R=false):=by rw[Hy,yp.o,hh];rfl
             go_wp2_with fail;go_ret;exact⟨cH (gN.o).symm,kf.o⟩
            |false=>
             have CT:Hy (R=!decide (0<=Lib.indexByte fs 58)):=by rw[Hy,yp.o,hh];rfl
             go_wp2_with fail;refine(strings_Contains_one (bs fs) 58 w5).mono ?_;rintro e w6 ⟨rfl,To⟩;have To:=To.symm;subst To;rw[ga];go_wp2_with fail;go_ret;exact⟨cH CT.o.symm,kf.o⟩
           ·have gN:Hy (R=false):=by rw[Hy,gN.o,aT h0];rfl
            have b0:(port==0)=false:=by rw[ai];exact h0
            clear h0;go_wp2_with fail;go_ret;exact⟨cH (gN.o).symm,kf.o⟩
       ·have HF:=bD (HUL.o q8);clear q8;refine hA (fun X8=>?_) (fun X8 q11 q12=>?_)
        all_goals
         try subst X8
         go_wp2_with fail;refine ag6.o ?_;intro w4 eY;have iW:=bD (dm.o.trans (eY.mono dm.o.size));clear eY;go_wp2_with fail;go_ret;exact⟨cH (HF.o).symm,iW.o⟩
      ·have q7i:65535<port:=by omega
       have q6i:¬port<0:=by omega
       have HF:=bD (HUO.o (by omega));clear q7 q6;refine hA (fun q8=>?_) (fun q8 q9 X8=>?_)
       all_goals
        try subst q8
        go_wp2_with fail;go_ret;exact⟨cH (HF.o).symm,dm.o⟩
     ·have q6i:port<0:=by omega
      have HF:=bD (HUG.o (by omega));clear q6;refine hA (fun q8=>?_) (fun q8 q9 X8=>?_)
      all_goals
       try subst q8
       go_wp2_with fail;go_ret;exact⟨cH (HF.o).symm,dm.o⟩
    ·have HF:=bD (HUN.o q4 q5);have q9:¬(bs cI).toList=[]:=by rw[bQ];intro e;rw[e]at q5;cases q5
     have X8:(bs cI).toList.isEmpty=false:=by rw[bQ];exact q5
     subst q4;clear q5;go_wp2_with fail;go_ret;exact⟨cH (HF.o).symm,dm.o⟩
end Go.Proofs.YtejafaaihodehaaGreatDoor
