/- Part 11. -/
import Derived.Test.YtejafaaihodehaaGreatDoorZ10
import Derived.Maps.OwnSet
import Derived.Carry
set_option linter.all false
set_option maxRecDepth 100000
set_option maxHeartbeats 8000000
namespace Go.Proofs.YtejafaaihodehaaGreatDoor
open Go Go.RowKit Tryz
theorem yK{H:Type}{P:Program}(w:World){ops:Array Oper}{rest:List Oper}{o:Oper}{a:Act}{Q:Exit->Act->World->Prop}
 (hg:o.guard=none) (m x v:Operand) (t:TypeId) (dS:o.op=Op.insert t m x v)
 (k e:TypeId) (K:Maps.Keyed P k) (ht:P.underlying t=some (.map k e)) (R:Value->Option (DataW H × List MemPlace)) (b n:Nat) (D:DataW H)
 (hm:a.eval m=.map (some b)) (bZ:w.ownsMap P k R b n D) (hn:n<maxLen) (key val:Value) (kl:Lit) (hx:a.eval x=key) (hv:a.eval v=val) (at5:Go.keyOf P k key=some kl)
 (d:DataW H) (ps:List MemPlace) (jj:R val=some (d,ps))
 (hK:∀w',w'.ownsMap P k R b (n+1) (D.put kl d)->w.grownBy w' (some b)->wpList P ops Q rest (a.put o.dst undef) w'):
 wpList P ops Q (o::rest) a w:=by
 refine wpList_plain hg fun K' hK'=>?_;obtain⟨w',qp,r1,r2⟩:=bZ.update K ht hn at5 jj;unfold Oper.wp;simp[execOp,dS,hm,hx,hv,qp,Result.andThen];exact hK' _ _ (hK w' r1 r2)
def mX(v:Value):Option (DataW Value × List MemPlace):=some (.held v,[])
def mc(k:Int)(a:Bool)(i:Int)(f g:Nat):Value:=.agg #[.int .i64 k,.bool a,.int .i64 i,.func (.func f) #[] #[],.func (.func g) #[] #[]]
def nZ:DataW Value:=
 (((((((((((DataW.map []).put (.string dI) (.held (mc 2 true 0 128 129))).put (.string dJ) (.held (mc 12 true 0 130 131))).put
   (.string df) (.held (mc 3 false 0 132 133))).put (.string iM) (.held (mc 10 false 0 134 135))).put
   (.string eC) (.held (mc 11 false 0 134 135))).put (.string mr) (.held (mc 4 false 0 134 135))).put
   (.string dK) (.held (mc 5 false 4 134 135))).put (.string eD) (.held (mc 6 false 4 134 135))).put
   (.string eE) (.held (mc 7 false 0 134 135))).put (.string iN) (.held (mc 8 false 7 136 137))).put
   (.string cP) (.held (mc 9 false 7 134 135))
theorem rJ:Maps.Keyed prog 9:=Maps.string_keyed underlying9
theorem IV{s:Bt}(h:s.length<=maxLen):Go.keyOf prog 9 (.string (bs s))=some (.string s):=by
 have:=Go.WideMaps.keyOf_string_mk (P:=prog) underlying9 (s:=bs s) (by rw[bJ];exact h);rw[this];simp[bs]
theorem TL(a:Array UInt8)(h:a.size<=maxLen):Go.keyOf prog 9 (.string ⟨a⟩)=some (.string a.toList):=
 Go.WideMaps.keyOf_string_mk (P:=prog) underlying9 (s:=⟨a⟩) h
structure ZV(w0 w:World)(n:Nat)(D:DataW Value):Prop where
 own:w.ownsMap prog 9 mX w0.heap.size n D
 below:Below w0.heap.size w0 w
theorem ai8(w:World):ZV w (w.alloc (.map #[] 0)) 0 (.map []):=⟨World.ownsMap_made w _ _ _,cU _ _⟩
theorem KT{w0 w:World}{n:Nat}{D:DataW Value}{ops:Array Oper}{rest:List Oper}{o:Oper}{a:Act}{Q:Exit->Act->World->Prop}(H:ZV w0 w n D)
 (hg:o.guard=none) (m x v:Operand) (dS:o.op=Op.insert 153 m x v) (hn:n<maxLen) (hm:a.eval m=.map (some w0.heap.size)) (b:Array UInt8) (val:Value) (hx:a.eval x=.string ⟨b⟩) (hv:a.eval v=val) (hb:b.size<=maxLen)
 (hK:∀w',ZV w0 w' (n+1) (D.put (.string b.toList) (.held val))->wpList prog ops Q rest (a.put o.dst undef) w'):wpList prog ops Q (o::rest) a w:=
 yK w hg m x v _ dS _ _ rJ underlying153 mX _ n D hm H.own hn _ val _ hx hv (TL b hb) (.held val) [] rfl fun w' h1 h2=>hK w' ⟨h1,H.below.trans ⟨h2.os,h2.tape,h2.output,h2.size,fun k hk=>h2.block k (br hk H.below.size) (fun e=>by injection e with e;omega)⟩⟩
theorem oB(w:World):Calls prog 102 #[] w fun e w'=>e=.returned (.map (some w.heap.size))/\w'.ownsMap prog 9 mX w.heap.size 11 nZ/\Below w.heap.size w w':=by
 have QU:=@run_makeMap prog;have hH:=ai8 w;go_enter func102,ntmps102;go_wp2_with ((with_reducible refine KT hH rfl _ _ _ rfl (by unfold maxLen;omega) rfl _ _ rfl rfl (by simp[maxLen]) ?_);clear hH;intro w_ hH);go_ret;exact⟨rfl,hH.own,hH.below⟩
def gQ(k:Int):Nat:=if k=2 then 128 else if k=12 then 130 else if k=3 then 132 else if k=8 then 136 else 134
def gR(k:Int):Nat:=if k=2 then 129 else if k=12 then 131 else if k=3 then 133 else if k=8 then 137 else 135
def GH(s:Bt):Value:=
 match eW s with
 |none=>.agg #[.int .i64 0,.bool false,.int .i64 0,.nilFunc,.nilFunc]
 |some q=>mc q.kind q.alone q.ej (gQ q.kind) (gR q.kind)
theorem oW{D:DataW Value}(hD:Maps.IsMap D)(k s:Bt)(v z:DataW Value):(D.put (.string k) v).atKey (.string s) z=if s=k then v else D.atKey (.string s) z:=by
 by_cases h:s=k
 ·subst h;rw[ae rfl];exact Maps.atKey_put_same hD (by simp[WideAt.IsKeyLit]) v z
 ·rw[aa h];exact Maps.atKey_put_other (fun e=>h (by injection e)) v z
theorem me{D:DataW Value}(hD:Maps.IsMap D)(k s:Bt)(v:DataW Value):Maps.has (D.put (.string k) v) (.string s)=if s=k then true else Maps.has D (.string s):=by
 by_cases h:s=k
 ·subst h;rw[ae rfl];exact Maps.has_put_same hD (by simp[WideAt.IsKeyLit]) v
 ·rw[aa h];exact Maps.has_put_other (fun e=>h (by injection e)) v
theorem pW{w:World}{b n:Nat}{s:Bt}(h:w.ownsMap prog 9 mX b n nZ)(hs:s.length<=maxLen)(c:Bool):
 (Instr.lookup 153 (.map (some b)) (.string (bs s)) c).run prog w=.ok (if c then .tuple #[GH s,.bool (eW s).isSome]else GH s) w:=by
 have hz:(zeroValue 151).run prog w=.ok (.agg #[.int .i64 0,.bool false,.int .i64 0,.nilFunc,.nilFunc]) w:=by kernel_rfl
 have hD:Maps.IsMap (DataW.map []:DataW Value):=⟨[],rfl⟩;have ha:nZ.atKey (.string s) (.held (.agg #[.int .i64 0,.bool false,.int .i64 0,.nilFunc,.nilFunc]))=.held (GH s):=by
  unfold nZ GH eW;rw[oW,oW,oW,oW,oW,oW,oW,oW,oW,oW,oW]
  all_goals try exact(⟨_,rfl⟩:Maps.IsMap _)
  by_cases h0:s=dI
  ·subst h0;simp[dI,dJ,df,iM,eC,mr,dK,eD,eE,iN,cP,gQ,gR]
  by_cases h1:s=dJ
  ·subst h1;simp[dI,dJ,df,iM,eC,mr,dK,eD,eE,iN,cP,gQ,gR]
  by_cases h2:s=df
  ·subst h2;simp[dI,dJ,df,iM,eC,mr,dK,eD,eE,iN,cP,gQ,gR]
  by_cases h3:s=iM
  ·subst h3;simp[dI,dJ,df,iM,eC,mr,dK,eD,eE,iN,cP,gQ,gR]
  by_cases h4:s=eC
  ·subst h4;simp[dI,dJ,df,iM,eC,mr,dK,eD,eE,iN,cP,gQ,gR]
  by_cases h5:s=mr
  ·subst h5;simp[dI,dJ,df,iM,eC,mr,dK,eD,eE,iN,cP,gQ,gR]
  by_cases h6:s=dK
  ·subst h6;simp[dI,dJ,df,iM,eC,mr,dK,eD,eE,iN,cP,gQ,gR]
  by_cases h7:s=eD
  ·subst h7;simp[dI,dJ,df,iM,eC,mr,dK,eD,eE,iN,cP,gQ,gR]
  by_cases h8:s=eE
  ·subst h8;simp[dI,dJ,df,iM,eC,mr,dK,eD,eE,iN,cP,gQ,gR]
  by_cases h9:s=iN
  ·subst h9;simp[dI,dJ,df,iM,eC,mr,dK,eD,eE,iN,cP,gQ,gR]
  by_cases KJ:s=cP
  ·subst KJ;simp[dI,dJ,df,iM,eC,mr,dK,eD,eE,iN,cP,gQ,gR]
  simp only[aa h0,aa h1,aa h2,aa h3,aa h4,aa h5,aa h6,aa h7,aa h8,aa h9,aa KJ];rfl
 have hh:Maps.has nZ (.string s)=(eW s).isSome:=by
  unfold nZ eW;rw[me,me,me,me,me,me,me,me,me,me,me]
  all_goals try exact(⟨_,rfl⟩:Maps.IsMap _)
  by_cases h0:s=dI
  ·subst h0;simp[dI,dJ,df,iM,eC,mr,dK,eD,eE,iN,cP]
  by_cases h1:s=dJ
  ·subst h1;simp[dI,dJ,df,iM,eC,mr,dK,eD,eE,iN,cP]
  by_cases h2:s=df
  ·subst h2;simp[dI,dJ,df,iM,eC,mr,dK,eD,eE,iN,cP]
  by_cases h3:s=iM
  ·subst h3;simp[dI,dJ,df,iM,eC,mr,dK,eD,eE,iN,cP]
  by_cases h4:s=eC
  ·subst h4;simp[dI,dJ,df,iM,eC,mr,dK,eD,eE,iN,cP]
  by_cases h5:s=mr
  ·subst h5;simp[dI,dJ,df,iM,eC,mr,dK,eD,eE,iN,cP]
  by_cases h6:s=dK
  ·subst h6;simp[dI,dJ,df,iM,eC,mr,dK,eD,eE,iN,cP]
  by_cases h7:s=eD
  ·subst h7;simp[dI,dJ,df,iM,eC,mr,dK,eD,eE,iN,cP]
  by_cases h8:s=eE
  ·subst h8;simp[dI,dJ,df,iM,eC,mr,dK,eD,eE,iN,cP]
  by_cases h9:s=iN
  ·subst h9;simp[dI,dJ,df,iM,eC,mr,dK,eD,eE,iN,cP]
  by_cases KJ:s=cP
  ·subst KJ;simp[dI,dJ,df,iM,eC,mr,dK,eD,eE,iN,cP]
  simp only[aa h0,aa h1,aa h2,aa h3,aa h4,aa h5,aa h6,aa h7,aa h8,aa h9,aa KJ];rfl
 cases c with
 |true=>
  obtain⟨v,ps,qp,hv⟩:=h.look_ok rJ underlying153 hz rfl (IV hs);rw[ha]at hv;simp only[mX,Option.some.injEq,Prod.mk.injEq,DataW.held.injEq]at hv;rw[qp,hh,hv.1];rfl
 |false=>
  obtain⟨v,ps,qp,hv⟩:=h.lookup rJ underlying153 hz rfl (IV hs);rw[ha]at hv;simp only[mX,Option.some.injEq,Prod.mk.injEq,DataW.held.injEq]at hv;rw[qp,hv.1];rfl
theorem IW(e:Elem)(kv:Value)(w:World):Calls prog 129 #[.agg #[.int .i64 e.kind,.string (bs e.text),.string (bs e.src),.string (bs e.jZ),.bool e.fp,.string (bs e.test),kv]] w fun en w'=>en=.returned (.bool (decide (e.src≠[])))/\Below w.heap.size w w':=by
 go_enter func129,ntmps129;go_wp2_with fail;go_ret;refine⟨?_,cU _ _⟩
 show Ending.returned (.bool !(bs e.src).toList.isEmpty)=_
 rw[bQ];cases e.src<;>rfl
theorem IX(e:Elem)(kv:Value)(w:World):Calls prog 131 #[.agg #[.int .i64 e.kind,.string (bs e.text),.string (bs e.src),.string (bs e.jZ),.bool e.fp,.string (bs e.test),kv]] w fun en w'=>en=.returned (.bool e.fp)/\Below w.heap.size w w':=by
 go_enter func131,ntmps131;go_wp2_with fail;go_ret;exact⟨rfl,cU _ _⟩
theorem IY(e:Elem)(kv:Value)(w:World):Calls prog 135 #[.agg #[.int .i64 e.kind,.string (bs e.text),.string (bs e.src),.string (bs e.jZ),.bool e.fp,.string (bs e.test),kv]] w fun en w'=>en=.returned (.bool true)/\Below w.heap.size w w':=by
 go_enter func135,ntmps135;go_wp2_with fail;go_ret;exact⟨rfl,cU _ _⟩
theorem IZ(e:Elem)(kv:Value)(w:World):Calls prog 133 #[.agg #[.int .i64 e.kind,.string (bs e.text),.string (bs e.src),.string (bs e.jZ),.bool e.fp,.string (bs e.test),kv]] w fun en w'=>en=.returned (.bool (decide (e.src≠[])))/\Below w.heap.size w w':=by
 go_enter func133,ntmps133;go_wp2_with fail;go_ret;refine⟨?_,cU _ _⟩
 show Ending.returned (.bool !(bs e.src).toList.isEmpty)=_
 rw[bQ];cases e.src<;>rfl
theorem I0(e:Elem)(kv:Value)(w:World):Calls prog 137 #[.agg #[.int .i64 e.kind,.string (bs e.text),.string (bs e.src),.string (bs e.jZ),.bool e.fp,.string (bs e.test),kv]] w fun en w'=>en=.returned (.bool e.fp)/\Below w.heap.size w w':=by
 go_enter func137,ntmps137;go_wp2_with fail;go_ret;exact⟨rfl,cU _ _⟩
theorem KU(k:Int)(e:Elem)(kv:Value)(w:World):Calls prog (gR k) #[.agg #[.int .i64 e.kind,.string (bs e.text),.string (bs e.src),.string (bs e.jZ),.bool e.fp,.string (bs e.test),kv]] w fun en w'=>en=.returned (.bool (kt k e))/\Below w.heap.size w w':=by
 unfold gR kt;by_cases h1:k=2
 ·rw[ae h1,ae (show k=2\/k=3 from .inl h1)];exact IW e kv w
 ·rw[aa h1];by_cases h2:k=12
  ·rw[ae h2,aa (show ¬(k=2\/k=3) by omega),ae (show k=12\/k=8 from .inl h2)];exact IX e kv w
  ·rw[aa h2];by_cases h3:k=3
   ·rw[ae h3,ae (show k=2\/k=3 from .inr h3)];exact IZ e kv w
   ·rw[aa h3,aa (show ¬(k=2\/k=3) by omega)];by_cases h4:k=8
    ·rw[ae h4,ae (show k=12\/k=8 from .inr h4)];exact I0 e kv w
    ·rw[aa h4,aa (show ¬(k=12\/k=8) by omega)];exact IY e kv w
theorem KW(k:Int)(X:Nat)(el:Elem)(n v:Bt)(w:World)(h:jC w X el):Calls prog (gQ k) #[.pointer (some ⟨X,0,none⟩),.string (bs n),.string (bs v)] w (oA X k el n v w):=by
 unfold gQ;by_cases h1:k=2
 ·rw[ae h1,h1];exact FB X el n v w h
 ·rw[aa h1];by_cases h2:k=12
  ·rw[ae h2,h2];exact NI X el n v w h
  ·rw[aa h2];by_cases h3:k=3
   ·rw[ae h3,h3];exact IS X el n v w h
   ·rw[aa h3];by_cases h4:k=8
    ·rw[ae h4,h4];exact NJ X el n v w h
    ·rw[aa h4];exact KO X el k (by omega) n v w h
theorem TM{w:World}{base:Nat}{te:TypeId}{G:Nat->Prop}{A:Option Addr}{c:Nat}{l ys:List Elem}{u:Elem}(h:b8 w base te 7 G (.slice A l.length c) (l.map Elem.gv))(hl:l=ys++[u]):
 ∃g,A=some ⟨g,0,none⟩/\w.cell? ⟨g,ys.length*7,none⟩=some (.int .i64 u.kind)/\l.length<=c:=by
 subst hl;obtain⟨xs,hr,hg⟩:=h;have rB:=hr;rcases hr.2 with⟨_,h0⟩|⟨g,cap,S7,hv,hb,hh,hn,hm,_⟩
 ·simp at h0
 ·injection hv with e1 e2 e3
  subst e1 e3;refine⟨g,rfl,?_,by simpa using hn⟩;obtain⟨cs,h1,h2,h3⟩:=hg.at_ ys.length (by simp);have e:((ys++[u]).map Elem.gv)[ys.length]'(by simp)=u.gv:=by simp
  rw[e]at h1;obtain⟨k,tx,s,a,b,v,ks⟩:=u;rw[Elem.gv]at h1;obtain⟨a1,b1,rfl,h4,-⟩:=cd.1 (nN.1 h1);have h4:=lK.1 h4;subst h4;have h5:=h3 0 (by omega);rw[ah]at rB;have h6:=rB.cellAt (ys.length*7) (by simp);rw[h6]
  show xs[ys.length*7]?=some (Value.int .i64 k)
  simpa using h5
theorem NO{base B:Nat}{v:Value}{r:List Level}{t:Level}{kvs:List Value}{own:Nat->Option Nat}(kind ej:Int)(w:World)(h:FC w base B v (r++[t]) kvs own)(hr:r.length<=100)(hk:t.e.bE.length<=10000):
 Calls prog 105 #[.pointer (some ⟨B,0,none⟩),.int .i64 kind,.int .i64 ej] w fun en w'=>en=.returned (.bool (jO t.e kind ej))/\∃m,w'=w.drewN m:=by
 obtain⟨sb,cap,rfl,sJ,mz,E5,VJ⟩:=h.form;obtain⟨kvr,kv,rfl,xA⟩:=h.Nw;obtain⟨ux,wJ⟩:=h.yH.Nw r.length t kv (by simp) (by rw[<-xA];simp);obtain⟨Ak,ck,rfl⟩:=ux.form;rw[ah]at*;have ib:=h.yH.row;rw[af,aR]at ib;have qy:∀j,j<8->w.cell? ⟨sb,r.length*8+j,none⟩=(ik t (.slice Ak t.e.bE.length ck))[j]?:=fun j hj=>by
  rw[ib.cellAt _ (by omega)];exact xz r.length j hj (by simp) (by rw[<-xA];simp)
 have b0:=h.iz.cell 0;have k0:=qy 0 (by omega);have k6:w.cell? ⟨sb,r.length*8+6,none⟩=some (.slice Ak t.e.bE.length ck):=qy 6 (by omega);have HKD:=bD ux;clear ux wJ qy h;go_enter func105,ntmps105;go_wp2_with fail;refine(rG w b0 sJ (by omega)).mono ?_;rintro en w2 ⟨rfl,m,rfl⟩;have k0:(w.drewN m).cell? ⟨sb,r.length*8,none⟩=some (.int .i64 t.e.kind):=k0;have k6:(w.drewN m).cell? ⟨sb,r.length*8+6,none⟩=some (.slice Ak t.e.bE.length ck):=k6;by_cases h4:t.e.kind=4
 ·have hb:(t.e.kind==4)=true:=by rw[h4];rfl
  go_wp2_with fail
  all_goals (go_ret;refine⟨?_,_,rfl⟩;simp only[jO,h4,if_true];simp_all)
  all_goals (rw[bj];simp;try omega)
 ·have hb:(t.e.kind==4)=false:=by rw[ai];exact h4
  by_cases h7:t.e.kind=7
  ·have lH:(t.e.kind==7)=true:=by rw[h7];rfl
   have hF:Hy (jO t.e kind ej=decide ((kind=8\/kind=9/\0<t.e.bE.length)/\∀u,t.e.bE.getLast?=some u->u.kind≠9)):=by unfold Hy jO;rw[aa h4,ae h7]
   clear h4 h7;rcases List.eq_nil_or_concat t.e.bE with hz|⟨ys,u,hz⟩
   ·have TN:Hy (jO t.e kind ej=decide (kind=8)):=by
     rw[Hy,hF.out,hz];simp
    have MY:t.e.bE.length=0:=by rw[hz];rfl
    rw[MY]at k6;clear hF hz MY;go_wp2_with fail
    all_goals (go_ret;refine⟨?_,_,rfl⟩;rw[TN.out];show Ending.returned (.bool _)=_;congr 2;rw[bj];simp[*])
   ·rw[List.concat_eq_append]at hz;have TN:Hy (jO t.e kind ej=decide ((kind=8\/kind=9)/\u.kind≠9)):=by
     rw[Hy,hF.out,hz];simp
    have MY:t.e.bE.length=ys.length+1:=by rw[hz];simp
    obtain⟨g,rfl,hu,wv⟩:=TM HKD.o hz;rw[MY]at k6;have hu:(w.drewN m).cell? ⟨g,ys.length*7,none⟩=some (.int .i64 u.kind):=hu;have tQ:(0:Int)<=(ys.length:Int):=by omega
    have Ix:(ys.length:Int)<((ys.length+1:Nat):Int):=by omega
    have PT:((ys.length:Int)+1)-1=(ys.length:Int):=by omega
    have VL:(0:Int)<(ys.length:Int)+1:=by omega
    have zJ:ys.length<=10000:=by omega
    have hn5:((ys.length:Int)+1==0)=false:=by rw[ai];omega
    clear hF hz MY;go_wp2_with fail
    all_goals (go_ret;refine⟨?_,_,rfl⟩;rw[TN.out];show Ending.returned (.bool _)=_;congr 2;rw[bj];simp[*])
  ·have lH:(t.e.kind==7)=false:=by rw[ai];exact h7
   have hF:Hy (jO t.e kind ej=decide (ej=0)):=by unfold Hy jO;rw[aa h4,aa h7]
   clear h4 h7;go_wp2_with fail
   all_goals (go_ret;refine⟨?_,_,rfl⟩;rw[hF.out];rfl)
end Go.Proofs.YtejafaaihodehaaGreatDoor
