/- Part 25. -/
import Derived.Test.YtejafaaihodehaaGreatDoorZ24
set_option linter.all false
set_option maxRecDepth 100000
set_option maxHeartbeats 8000000
namespace Go.Proofs.YtejafaaihodehaaGreatDoor
open Go Go.RowKit Tryz
def lF(s t:Bt):Bool:=decide (t.length<=s.length)&&(s.take t.length==t)
theorem Va(s m:Bt):(lF s m||lF m s)=iH s m:=by
 unfold lF iH;by_cases h:m.length<=s.length
 ·rw[aS h,Bool.true_and,aO h];by_cases h2:s.length<=m.length
  ·have e:s.length=m.length:=by omega
   rw[aS h2,Bool.true_and,aO h2,bj];simp only[bA,beq_iff_eq];exact⟨fun h=>h.elim id Eq.symm,.inl⟩
  ·rw[aT h2,Bool.false_and,Bool.or_false]
 ·have h2:s.length<=m.length:=by omega
  rw[aT h,Bool.false_and,Bool.false_or,aS h2,Bool.true_and,aO h2,bj];simp only[beq_iff_eq];exact⟨Eq.symm,Eq.symm⟩
def eJ(b:Bool)(s:Bt):Bt:=
 if s=[]then[]else if iH s fM then fM else if iH s ew then ew else if iH s (eS b)then eS b else[]
theorem wb{c x:UInt8}{l m:Bt}(h:c≠x):iH (c::l) (x::m)=false:=by
 unfold iH;rw[ak,ak,List.take_succ_cons,List.take_succ_cons,ai];intro e;injection e with e _
 exact h e
theorem xS(b:Bool):∀s:Bt,eJ b s=if(bX b s).2=0 then(bX b s).1 else[]
 |[]=>rfl
 |c::l=>by
  rw[fz,eJ,aa (by simp)];have hm:(if iH (c::l) fM then fM else if iH (c::l) ew then ew else if iH (c::l) (eS b)then eS b else[])=(jS b (c::l)).getD []:=by
   unfold jS;split
   ·rfl
   ·split
    ·rfl
    ·split<;>rfl
  rw[hm];unfold gh;by_cases hc:c=60\/c=45
  ·simp only[ae hc];cases jS b (c::l)with
   |none=>simp
   |some m=>simp
  ·simp only[aa hc];have h1:iH (c::l) fM=false:=wb fun e=>hc (.inl e);have h2:iH (c::l) ew=false:=wb fun e=>hc (.inl e);have h3:iH (c::l) (eS b)=false:=by
    unfold eS;split
    ·exact wb fun e=>hc (.inr e)
    ·exact wb fun e=>hc (.inl e)
   have e:jS b (c::l)=none:=by unfold jS;rw[h1,h2,h3];rfl
   rw[e];simp
theorem Mp(b:Bool):∀(s:Bt) (j:Nat),j<=(bX b s).2->bX b (s.drop j)=((bX b s).1,(bX b s).2-j)
 |[],j,h=>by
  have h:j<=0:=h;obtain rfl:j=0:=by omega
  rfl
 |c::l,0,_=>rfl
 |c::l,j+1,h=>by
  rw[fz]at h|-;cases hh:gh b (c::l)with
  |some m=>rw[hh]at h;exact aX h (Nat.not_succ_le_zero j)
  |none=>
   rw[hh]at h;have h:j+1<=(bX b l).2+1:=h;rw[List.drop_succ_cons,Mp b l j (by omega)]
   show _=((bX b l).1,(bX b l).2+1-(j+1))
   rw[Nat.add_sub_add_right]
theorem AQ(b:Bool):∀s:Bt,(bX b s).1=[]↔(bX b s).2=s.length
 |[]=>by simp[bX]
 |c::l=>by
  rw[fz];cases hh:gh b (c::l)with
  |some m=>
   have:=Bv hh;simp[this]
  |none=>
   have ih:=AQ b l
   show(bX b l).1=[]↔(bX b l).2+1=(c::l).length
   rw[ih,ak];omega
theorem Vb(b:Bool)(s:Bt):(bX b s).2<=s.length:=(nW b s).2
theorem Pe{b:Bool}{s:Bt}{j:Nat}(h:j<=(bX b s).2):eJ b (s.drop j)=if j=(bX b s).2 then(bX b s).1 else[]:=by
 rw[xS,Mp b s j h];by_cases e:j=(bX b s).2
 ·rw[ae (by show(bX b s).2-j=0;omega),ae e]
 ·rw[aa (by show ¬(bX b s).2-j=0;omega),aa e]
inductive Rs where
 |go (k:Nat)
 |short
 |bad (e:Int)
namespace Rs
def of{α:Type}:eN α->Rs
 |.ok _ _ k=>.go k
 |.short=>.short
 |.bad e=>.bad e
def after{α:Type}(s:Bt)(x:Rs)(f:Bt->Nat->eN α):Rs:=
 match x with
 |.go k=>of (f (s.drop k) k)
 |.short=>.short
 |.bad e=>.bad e
def fail(x:Rs)(e:Int):Rs:=
 match x with
 |.go _=>.bad e
 |.short=>.short
 |.bad e=>.bad e
def live:Rs->Bool
 |.go _=>true
 |_=>false
end Rs
def tA{α:Type}(s:Bt)(o:eN α):Prop:=∀a r k,o=.ok a r k->r=s.drop k
theorem tA.bind{α β:Type}{s:Bt}{o:eN α}{f:α->Bt->Nat->eN β}(h:tA s o)(hf:∀a k,tA s (f a (s.drop k) k)):tA s (o.bind f):=by
 intro b r k e;obtain⟨a,r1,k1,h1,h2⟩:=eN.cG e;obtain rfl:=h _ _ _ h1;exact hf a k1 _ _ _ h2
theorem EF{α:Type}(s:Bt)(a:α)(k:Nat):tA s (.ok a (s.drop k) k):=fun _ _ _ e=>by injection e with _ h2 h3;subst h3;exact h2.symm
theorem H5{α:Type}(s:Bt)(e:Int):tA s (eN.bad e:eN α):=fun _ _ _ h=>by cases h
theorem Mq(s:Bt)(k:Nat):tA s (dy (s.drop k) k):=fun a r k' h=>by
 obtain⟨rfl,rfl,_⟩:=kh h;rfl
theorem mL(s:Bt):∀(m:Bt) (k:Nat),tA s (cZ m (s.drop k) k)
 |[],k=>EF s () k
 |c::m,k=>by
  intro a r k' h;rw[cZ]at h;obtain⟨x,r1,k1,h1,h2⟩:=eN.cG h;obtain⟨rfl,rfl,_⟩:=kh h1;split at h2
  ·rw[List.tail_drop]at h2;exact mL s m (k1+1) _ _ _ h2
  ·cases h2
theorem oe(p:UInt8->Bool)(s:Bt):∀(r:Bt) (k:Nat),r=s.drop k->tA s (fg p r k)
 |[],k,_=>fun _ _ _ h=>by cases h
 |c::r,k,hr=>by
  rw[fg];split
  ·exact H5 s 2
  ·split
   ·intro a r' k' h;obtain⟨x,r1,k1,h1,h2⟩:=eN.cG h;have Kv:r=s.drop (k+1):=by rw[<-List.tail_drop,<-hr];rfl
    have:=oe p s r (k+1) Kv _ _ _ h1;injection h2 with _ h3 h4
    subst h3 h4;exact this
   ·rw[hr];exact EF s [] k
theorem qL(s:Bt)(k:Nat):tA s (eO (s.drop k) k):=by
 intro a r k' h;rw[eO]at h;obtain⟨x,r1,k1,h1,h2⟩:=eN.cG h;have:=oe ji s _ k rfl _ _ _ h1;split at h2
 ·cases h2
 ·injection h2 with _ h3 h4
  subst h3 h4;exact this
theorem eN.bind_assoc{α β γ:Type}(o:eN α)(f:α->Bt->Nat->eN β)(g:β->Bt->Nat->eN γ):(o.bind f).bind g=o.bind fun a r k=>(f a r k).bind g:=by
 cases o<;>rfl
def qi(at_:List bY)(r:Bt)(k:Nat):eN (List bY):=
 (eO r k).bind fun a r k=>(cZ [61] r k).bind fun _ r k=>
 if at_.any (fun x=>x.name==a)||decide (8<=at_.length)then .bad 41 else
 (cZ [34] r k).bind fun _ r k=>(fg gY r k).bind fun v r k=>(cZ [34] r k).bind fun _ r k=>.ok (at_++[⟨a,v⟩]) r k
theorem Mr(s:Bt)(at_:List bY)(k:Nat):tA s (qi at_ (s.drop k) k):=by
 refine(qL s k).bind fun a k=>(mL s _ k).bind fun _ k=>?_;split
 ·exact H5 s 41
 ·exact(mL s _ k).bind fun _ k=>(oe _ s _ k rfl).bind fun v k=>(mL s _ k).bind fun _ k=>EF s _ k
theorem Si(go:List bY->Bt->Nat->eN bG)(at_:List bY)(r:Bt)(k:Nat):
 ((eO r k).bind fun a r k=>(cZ [61] r k).bind fun _ r k=>qx go at_ a r k)=(qi at_ r k).bind fun at2 r k=>go at2 r k:=by
 unfold qi qx su;rw[eN.bind_assoc];congr 1;funext a r k;rw[eN.bind_assoc];congr 1;funext _ r k;split
 ·rfl
 ·rw[eN.bind_assoc];congr 1;funext _ r k;rw[eN.bind_assoc];congr 1;funext v r k;rw[eN.bind_assoc];rfl
theorem BT{s:Bt}{at_:List bY}{x x1 x2 x3 x4 x5 x6:Rs}{v1 v2:Bt}{b:Bool}
 (h1:x1=x.after s eO) (n1:∀k l r k',x=.go k->eO (s.drop k) k=.ok l r k'->v1=l)
 (h2:x2=x1.after s (cZ [61])) (hb:b=(at_.any (fun x=>x.name==v1)||decide (at_.length=8))) (h3:x3=if b then x2.fail 41 else x2)
 (h4:x4=x3.after s (cZ [34])) (h5:x5=x4.after s (fg gY)) (n5:∀k l r k',x4=.go k->fg gY (s.drop k) k=.ok l r k'->v2=l)
 (h6:x6=x5.after s (cZ [34])) (hl:at_.length<=8):
 x6=x.after s (qi at_)/\∀k at2 r k',x=.go k->qi at_ (s.drop k) k=.ok at2 r k'->at2=at_++[⟨v1,v2⟩]:=by
 cases x with
 |short=>
  have h1:x1=.short:=h1;subst h1;have h2:x2=.short:=h2;subst h2;have h3:x3=.short:=by rw[h3];split<;>rfl
  subst h3;have h4:x4=.short:=h4;subst h4;have h5:x5=.short:=h5;subst h5;exact⟨h6,fun _ _ _ _ h=>by cases h⟩
 |bad e=>
  have h1:x1=.bad e:=h1;subst h1;have h2:x2=.bad e:=h2;subst h2;have h3:x3=.bad e:=by rw[h3];split<;>rfl
  subst h3;have h4:x4=.bad e:=h4;subst h4;have h5:x5=.bad e:=h5;subst h5;exact⟨h6,fun _ _ _ _ h=>by cases h⟩
 |go k=>
  have h1:x1=.of (eO (s.drop k) k):=h1;have key:x6=.of (qi at_ (s.drop k) k)/\∀at2 r k',qi at_ (s.drop k) k=.ok at2 r k'->at2=at_++[⟨v1,v2⟩]:=by
   unfold qi;have K1:=qL s k;cases o1:eO (s.drop k) k with
   |short=>
    rw[o1]at h1;have h1:x1=.short:=h1;subst h1;have h2:x2=.short:=h2;subst h2;have h3:x3=.short:=by rw[h3];split<;>rfl
    subst h3;have h4:x4=.short:=h4;subst h4;have h5:x5=.short:=h5;subst h5;exact⟨h6,fun _ _ _ h=>by cases h⟩
   |bad e=>
    rw[o1]at h1;have h1:x1=.bad e:=h1;subst h1;have h2:x2=.bad e:=h2;subst h2;have h3:x3=.bad e:=by rw[h3];split<;>rfl
    subst h3;have h4:x4=.bad e:=h4;subst h4;have h5:x5=.bad e:=h5;subst h5;exact⟨h6,fun _ _ _ h=>by cases h⟩
   |ok a r1 k1=>
    rw[o1]at h1;have h1:x1=.go k1:=h1;subst h1;obtain rfl:=n1 k a r1 k1 rfl o1;obtain rfl:=K1 _ _ _ o1;have h2:x2=.of (cZ [61] (s.drop k1) k1):=h2;have K2:=mL s [61] k1;simp only[eN.bind];cases o2:cZ [61] (s.drop k1) k1 with
    |short=>
     rw[o2]at h2;have h2:x2=.short:=h2;subst h2;have h3:x3=.short:=by rw[h3];split<;>rfl
     subst h3;have h4:x4=.short:=h4;subst h4;have h5:x5=.short:=h5;subst h5;exact⟨h6,fun _ _ _ h=>by cases h⟩
    |bad e=>
     rw[o2]at h2;have h2:x2=.bad e:=h2;subst h2;have h3:x3=.bad e:=by rw[h3];split<;>rfl
     subst h3;have h4:x4=.bad e:=h4;subst h4;have h5:x5=.bad e:=h5;subst h5;exact⟨h6,fun _ _ _ h=>by cases h⟩
    |ok u r2 k2=>
     rw[o2]at h2;have h2:x2=.go k2:=h2;subst h2;obtain rfl:=K2 _ _ _ o2;simp only;have cu:(at_.any (fun x=>x.name==v1)||decide (8<=at_.length))=b:=by
      rw[hb];congr 1;rw[bj,aH,aH];omega
     rw[cu];cases b with
     |true=>
      have h3:x3=.bad 41:=h3;subst h3;have h4:x4=.bad 41:=h4;subst h4;have h5:x5=.bad 41:=h5;subst h5;exact⟨h6,fun _ _ _ h=>by cases h⟩
     |false=>
      have h3:x3=.go k2:=h3;subst h3;have h4:x4=.of (cZ [34] (s.drop k2) k2):=h4;have K4:=mL s [34] k2;simp only[Bool.false_eq_true,if_false];cases o4:cZ [34] (s.drop k2) k2 with
      |short=>
       rw[o4]at h4;have h4:x4=.short:=h4;subst h4;have h5:x5=.short:=h5;subst h5;exact⟨h6,fun _ _ _ h=>by cases h⟩
      |bad e=>
       rw[o4]at h4;have h4:x4=.bad e:=h4;subst h4;have h5:x5=.bad e:=h5;subst h5;exact⟨h6,fun _ _ _ h=>by cases h⟩
      |ok u r4 k4=>
       rw[o4]at h4;have h4:x4=.go k4:=h4;subst h4;obtain rfl:=K4 _ _ _ o4;have h5:x5=.of (fg gY (s.drop k4) k4):=h5;have K5:=oe gY s _ k4 rfl;simp only;cases o5:fg gY (s.drop k4) k4 with
       |short=>
        rw[o5]at h5;have h5:x5=.short:=h5;subst h5;exact⟨h6,fun _ _ _ h=>by cases h⟩
       |bad e=>
        rw[o5]at h5;have h5:x5=.bad e:=h5;subst h5;exact⟨h6,fun _ _ _ h=>by cases h⟩
       |ok v r5 k5=>
        rw[o5]at h5;have h5:x5=.go k5:=h5;subst h5;obtain rfl:=n5 k4 v r5 k5 rfl o5;obtain rfl:=K5 _ _ _ o5;have h6:x6=.of (cZ [34] (s.drop k5) k5):=h6;simp only;cases o6:cZ [34] (s.drop k5) k5 with
        |short=>rw[o6]at h6;exact⟨h6,fun _ _ _ h=>by cases h⟩
        |bad e=>rw[o6]at h6;exact⟨h6,fun _ _ _ h=>by cases h⟩
        |ok u r6 k6=>
         rw[o6]at h6;exact⟨h6,fun _ _ _ h=>by injection h with h _ _;exact h.symm⟩
  exact⟨key.1,fun k2 at2 r k' h=>by injection h with h;subst h;exact key.2 at2 r k'⟩
def jm(closing:Bool)(s:Bt):eN bG:=
 if closing then(eO (s.drop 6) 6).bind fun nm r k=>(fg cV r k).bind fun _ r k=>(cZ [62] r k).bind fun _ r k=>.ok ⟨2,nm,[]⟩ r k
 else(eO (s.drop 5) 5).bind fun nm r k=>dz (r.length+1) nm [] r k
theorem AR:∀(m r:Bt) (k:Nat),lF r m=true->k+m.length<=400->cZ m r k=.ok () (r.drop m.length) (k+m.length)
 |[],r,k,_,_=>by simp[cZ]
 |c::m,r,k,h,hk=>by
  unfold lF at h;rw[aG,aH,beq_iff_eq]at h;obtain⟨h1,h2⟩:=h;cases r with
  |nil=>simp at h1
  |cons x r=>
   rw[ak,List.take_succ_cons]at h2;injection h2 with h3 h4
   subst h3;rw[ak]at hk h1;rw[ak]at h1;have hp:dy (x::r) k=.ok x (x::r) k:=by unfold dy;simp only;rw[aa (by omega)]
   rw[cZ,hp];simp only[eN.bind,List.tail_cons,if_true];rw[AR m r (k+1) (by unfold lF;rw[h4,aS (by omega)];simp) (by omega),ak,List.drop_succ_cons];congr 1;omega
theorem Ms{s m:Bt}(hm:m=fM\/m=ew)(h:lF s m=true):ml m s 0=jm (lF s ew) s:=by
 rcases hm with rfl|rfl
 ·have hc:lF s ew=false:=by
   unfold lF at h|-;rw[aG,aH,beq_iff_eq]at h;rw[Bool.and_eq_false_iff,ai];refine .inr fun e=>?_;have h2:=congrArg (List.take 2) h.2;have h3:=congrArg (List.take 2) e;rw[List.take_take]at h2 h3;have h2:s.take 2=[60,101]:=h2;have h3:s.take 2=[60,47]:=h3;rw[h2]at h3;exact aX h3 (by decide)
  rw[hc,ml,AR fM s 0 h (by decide)];rfl
 ·rw[h,ml,AR ew s 0 h (by decide)];rfl
def zq(x:gG):Bool:=
 if x.rest=[]then true
 else if eJ x.inside x.rest=[]\/x.rest.length<(eJ x.inside x.rest).length then decide (eJ x.inside x.rest≠[])
 else if eJ x.inside x.rest=tB\/eJ x.inside x.rest=ox then false
 else match ml (eJ x.inside x.rest) x.rest 0 with
  |.short=>true
  |_=>false
theorem Sj(x:gG):jo x=zq x:=by
 obtain⟨s,b⟩:=x;unfold jo zq;simp only;by_cases hs:s=[]
 ·subst hs;rfl
 rw[aa hs];have hn:=AQ b s;have CQ:=List.length_pos_iff.2 hs;have QP:=qD b s;rw[xS];generalize bX b s=p at*;obtain⟨m,i⟩:=p;simp only at hn QP|-;by_cases hi:i=0
 ·subst hi;have hm:m≠[]:=fun e=>by have:=hn.1 e;omega
  simp only[if_true,hs,hm,false_or,ne_eq,not_true_eq_false,not_false_eq_true,decide_true];by_cases hl:s.length<m.length
  ·simp[hl]
  ·rw[aa hl,aa hl];by_cases ho:m=fM\/m=ew
   ·have hnr:¬(m=tB\/m=ox):=by rcases ho with rfl|rfl<;>decide
    rw[aa hnr,aS ho];unfold fe;cases ht:ml m s 0 with
    |ok t r k=>
     have:=(xC ht).2.2.2;simp;omega
    |short=>simp
    |bad e=>
     have:e≠0:=U1 m s 0 e ht;simp[this]
   ·have hr:m=tB\/m=ox:=by
     rcases QP with h|h|h|h|h
     ·exact aX h hm
     ·exact aX (.inl h) ho
     ·exact aX (.inr h) ho
     ·exact .inr h
     ·exact .inl h
    rw[ae hr,aT ho];rfl
 ·simp[hi,hs]
def sc:List bG->Bt->List bG->List bG
 |[],tx,out=>if tx=[]then out else out++[bS tx]
 |t::l,tx,out=>if t.kind=0 then sc l (tx++t.text) out else sc l [] ((if tx=[]then out else out++[bS tx])++[t])
theorem EG:∀(l:List bG) (tx:Bt) (out:List bG),(∀t∈l,fJ t)->vW out->sc l tx out=l.foldl bV (if tx=[]then out else out++[bS tx])
 |[],tx,out,_,_=>rfl
 |t::l,tx,out,hp,ho=>by
  rw[sc,List.foldl_cons];split
  ·rename_i hk;rw[EG l _ out (fun x hx=>hp x (by simp[hx])) ho];congr 1;obtain⟨k,x,a⟩:=t;have hk:k=0:=hk;subst hk;have ha:a=[]:=by
    rcases hp ⟨0,x,a⟩ (by simp)with h|h
    ·exact h.2
    ·rcases h with h|h|h<;>cases h
   subst ha;unfold bV;simp only[ne_eq,not_true_eq_false,if_false];by_cases hx:x=[]
   ·subst hx;simp
   ·rw[aa hx,aa (by simp[hx])];by_cases ht:tx=[]
    ·subst ht;simp only[if_true,List.nil_append];split
     ·rename_i u hu;rw[aa (ho u hu)];rfl
     ·rfl
    ·rw[aa ht];simp only[List.getLast?_append,List.getLast?_singleton,Option.some_or,List.dropLast_concat];rfl
  ·rename_i hk;rw[EG l [] _ (fun x hx=>hp x (by simp[hx])) (by intro u hu;rw[List.getLast?_concat]at hu;injection hu with hu;subst hu;exact hk),ae rfl,ta hk]
theorem Mt{l:List bG}(h:∀t∈l,fJ t):sc l [] []=eV l:=EG l [] [] h (fun u hu=>by cases hu)
def an3(s:ByteArray):Rs->Int->Int->Bool->Prop
 |.go k,a,z,sh=>k<=s.size/\a=k/\z=0/\sh=false
 |.short,_,z,sh=>z=0/\sh=true
 |.bad n,_,z,sh=>z=n/\n≠0/\sh=false
def kc(s:ByteArray)(a z:Int)(sh:Bool):Array Value:=#[.string s,.int .i64 a,.int .i64 z,.bool sh]
def gb(w:World)(b:Nat)(s:ByteArray)(x:Rs):Prop:=∃a z sh,bL w b 77 (kc s a z sh)/\an3 s x a z sh
theorem gb.lt{w:World}{b:Nat}{s:ByteArray}{x:Rs}(h:gb w b s x):b<w.heap.size:=by
 obtain⟨a,z,sh,hb,_⟩:=h;exact hb.lt
theorem gb.grown{w w':World}{b:Nat}{s:ByteArray}{x:Rs}{row:Option Nat}(h:gb w b s x)(hg:w.grownBy w' row)(hr:some b≠row):gb w' b s x:=by
 obtain⟨a,z,sh,hb,hi⟩:=h;exact⟨a,z,sh,hb.grown hg hr,hi⟩
theorem gb.below{w w':World}{b:Nat}{s:ByteArray}{x:Rs}(h:gb w b s x)(hb:Below w.heap.size w w'):gb w' b s x:=by
 obtain⟨a,z,sh,h1,hi⟩:=h;exact⟨a,z,sh,h1.below hb h1.lt,hi⟩
theorem gb.drewN{w:World}{b:Nat}{s:ByteArray}{x:Rs}(h:gb w b s x)(n:Nat):gb (w.drewN n) b s x:=h
theorem sd{w:World}{b:Nat}{s:ByteArray}{a z:Int}{sh:Bool}(h:bL w b 77 (kc s a z sh)):
 (w.cell? ⟨b,0,none⟩=some (.string s)/\w.cell? ⟨b,1,none⟩=some (.int .i64 a)/\w.cell? ⟨b,2,none⟩=some (.int .i64 z)/\w.cell? ⟨b,3,none⟩=some (.bool sh))/\
  w.frozen? ⟨b,1,none⟩=false/\w.frozen? ⟨b,2,none⟩=false/\w.frozen? ⟨b,3,none⟩=false:=
 ⟨⟨h.cell 0,h.cell 1,h.cell 2,h.cell 3⟩,h.frozen 1,h.frozen 2,h.frozen 3⟩
theorem wX{w:World}{b:Nat}{s:ByteArray}{a z:Int}{sh:Bool}(h:bL w b 77 (kc s a z sh))(n:Int):bL (w.setCell ⟨b,1,none⟩ (.int .i64 n)) b 77 (kc s n z sh):=h.cL 1 _
theorem Vc{w:World}{b:Nat}{s:ByteArray}{a z:Int}{sh:Bool}(h:bL w b 77 (kc s a z sh))(n:Int):bL (w.setCell ⟨b,2,none⟩ (.int .i64 n)) b 77 (kc s a n sh):=h.cL 2 _
theorem an4{w:World}{b:Nat}{s:ByteArray}{a z:Int}{sh:Bool}(h:bL w b 77 (kc s a z sh))(q:Bool):bL (w.setCell ⟨b,3,none⟩ (.bool q)) b 77 (kc s a z q):=h.cL 3 _
theorem Gf(c:UInt8)(w:World):Calls prog 112 #[.int .u8 c.toNat] w fun e w'=>e=.returned (.bool (ji c))/\w=w':=by
 go_enter func112,ntmps112;go_wp2
 all_goals
  go_ret;refine⟨cH ?_,rfl⟩;simp only[ji,sq,XU,UInt8.reduceToNat]
  first|rfl|(simp[*];done)|(simp[*];omega)
theorem JP(c:UInt8)(w:World):Calls prog 113 #[.int .u8 c.toNat] w fun e w'=>e=.returned (.bool (cV c))/\w=w':=by
 go_enter func113,ntmps113;go_wp2
 all_goals
  go_ret;refine⟨cH ?_,rfl⟩;simp only[cV,sq,UInt8.reduceToNat]
  first|rfl|(simp[*];done)
theorem dw(s:ByteArray)(b:Nat)(x:Rs)(w:World)(h:gb w b s x):
 Calls prog 76 #[.pointer (some ⟨b,0,none⟩)] w fun e w'=>e=.returned (.bool x.live)/\w=w':=by
 obtain⟨a,z,sh,hb,hi⟩:=h;obtain⟨⟨c0,c1,c2,c3⟩,f1,f2,f3⟩:=sd hb;cases x with
 |go k=>
  obtain⟨hk,rfl,rfl,rfl⟩:=hi;go_enter func76,ntmps76;go_wp2_with fail;go_ret;exact⟨rfl,rfl⟩
 |short=>
  obtain⟨rfl,rfl⟩:=hi;go_enter func76,ntmps76;go_wp2_with fail;go_ret;exact⟨rfl,rfl⟩
 |bad n=>
  obtain⟨rfl,hz,rfl⟩:=hi;have rq:(z==0)=false:=by rw[ai];exact hz
  clear hz;go_enter func76,ntmps76;go_wp2_with fail;go_ret;exact⟨rfl,rfl⟩
def jQ(s:Bt):Rs->UInt8
 |.go k=>match dy (s.drop k) k with
  |.ok c _ _=>c
  |_=>0
 |_=>0
theorem jq(s:ByteArray)(b:Nat)(x:Rs)(w:World)(h:gb w b s x)(hs:s.size<=10000000):
 Calls prog 77 #[.pointer (some ⟨b,0,none⟩)] w fun e w'=>e=.returned (.int .u8 (jQ (L s) x).toNat)/\gb w' b s (x.after (L s) dy)/\w.grownBy w' (some b):=by
 obtain⟨a,z,sh,hb,hi⟩:=h;have HB:=bD hb;obtain⟨⟨c0,c1,c2,c3⟩,f1,f2,f3⟩:=sd hb;clear hb;cases x with
 |go k=>
  obtain⟨hk,rfl,rfl,rfl⟩:=hi;rcases Nat.lt_or_ge k s.size with nG|nG
  ·rcases Nat.lt_or_ge k 400 with h4|h4
   ·go_enter func77,ntmps77;go_wp2_with fail;go_quiet (fail);go_wp2_with fail;go_quiet (fail);go_wp2_with fail;go_ret;refine⟨?_,⟨_,_,_,HB.o,?_⟩,dF (dF (bR _ _) _) _⟩
    ·rw[jQ,rA nG h4];rfl
    ·rw[Rs.after,rA nG h4];exact⟨hk,rfl,rfl,rfl⟩
   ·go_enter func77,ntmps77;go_wp2_with fail;go_quiet (fail);go_wp2_with fail;go_ret;refine⟨?_,⟨_,_,_,Vc HB.o 2,?_⟩,bF (dF (bR _ _) _) (.inl rfl) _⟩
    ·rw[jQ,pL nG h4];rfl
    ·rw[Rs.after,pL nG h4];exact⟨rfl,by decide,rfl⟩
  ·go_enter func77,ntmps77;go_wp2_with fail;go_quiet (fail);go_wp2_with fail;go_ret;refine⟨?_,⟨_,_,_,an4 HB.o true,?_⟩,bF (dF (bR _ _) _) (.inl rfl) _⟩
   ·rw[jQ,oy nG];rfl
   ·rw[Rs.after,oy nG];exact⟨rfl,rfl⟩
 |short=>
  obtain⟨rfl,rfl⟩:=hi;go_enter func77,ntmps77;go_wp2_with fail;go_ret;exact⟨rfl,⟨_,_,_,HB.o,rfl,rfl⟩,bR _ _⟩
 |bad n=>
  obtain⟨rfl,hz,rfl⟩:=hi;have HZ:=bD hz;have rq:(z !=0)=true:=by rw[aQ];exact hz
  clear hz;go_enter func77,ntmps77;go_wp2_with fail;go_ret;exact⟨rfl,⟨_,_,_,HB.o,rfl,HZ.o,rfl⟩,bR _ _⟩
theorem og(s:ByteArray)(b:Nat)(x:Rs)(n:Int)(hn:n≠0)(w:World)(h:gb w b s x):
 Calls prog 78 #[.pointer (some ⟨b,0,none⟩),.int .i64 n] w fun e w'=>e=.returned (.tuple #[])/\gb w' b s (x.fail n)/\w.grownBy w' (some b):=by
 have HN:=bD hn;clear hn;cases x with
 |go k=>
  have H:=bD h;obtain⟨a,z,sh,hb,hi⟩:=h;have HB:=bD hb;obtain⟨hk,rfl,rfl,rfl⟩:=hi;obtain⟨⟨c0,c1,c2,c3⟩,f1,f2,f3⟩:=sd hb;clear hb;go_enter func78,ntmps78;go_wp2_with fail;refine(dw s b _ w H.o).mono ?_;rintro e w1 ⟨rfl,rfl⟩;have pf:Rs.live (.go k)=true:=rfl;go_wp2_with fail;go_end0;exact⟨rfl,⟨_,_,_,Vc HB.o n,rfl,HN.o,rfl⟩,bF (bR _ _) (.inl rfl) _⟩
 |short=>
  have H:=bD h;clear h;go_enter func78,ntmps78;go_wp2_with fail;refine(dw s b _ w H.o).mono ?_;rintro e w1 ⟨rfl,rfl⟩;have pf:Rs.live .short=false:=rfl;go_wp2_with fail;go_end0;exact⟨rfl,H.o,bR _ _⟩
 |bad z=>
  have H:=bD h;clear h;go_enter func78,ntmps78;go_wp2_with fail;refine(dw s b _ w H.o).mono ?_;rintro e w1 ⟨rfl,rfl⟩;have pf:Rs.live (.bad z)=false:=rfl;go_wp2_with fail;go_end0;exact⟨rfl,H.o,bR _ _⟩
theorem EH(s:Bt)(c:UInt8)(x:Rs):x.after s (cZ [c])=match x.after s dy with
 |.go k=>if jQ s x=c then .go (k+1)else .bad 40
 |d=>d:=by
 cases x with
 |go k=>
  rw[Rs.after,Rs.after,jQ,cZ];cases h:dy (s.drop k) k with
  |ok y r k1=>
   by_cases hc:y=c
   ·simp only[eN.bind,Rs.of,ae hc,cZ]
   ·simp only[eN.bind,Rs.of,aa hc]
  |short=>rfl
  |bad n=>rfl
 |short=>rfl
 |bad n=>rfl
theorem Gg{s:ByteArray}{x:Rs}{k:Nat}(h:x.after (L s) dy=.go k):k<s.size:=by
 cases x with
 |go j=>
  rw[Rs.after]at h;cases hp:dy ((L s).drop j) j with
  |ok y r k1=>
   rw[hp]at h;injection h with h
   subst h;obtain⟨rfl,rfl,-,t,ht⟩:=kh hp;have:=congrArg List.length ht;rw[aj,ak,<-cm]at this;omega
  |short=>rw[hp]at h;cases h
  |bad n=>rw[hp]at h;cases h
 |short=>cases h
 |bad n=>cases h
theorem jn(s:ByteArray)(b:Nat)(x:Rs)(c:UInt8)(w:World)(h:gb w b s x)(hs:s.size<=10000000):
 Calls prog 75 #[.pointer (some ⟨b,0,none⟩),.int .u8 c.toNat] w fun e w'=>e=.returned (.tuple #[])/\gb w' b s (x.after (L s) (cZ [c]))/\w.grownBy w' (some b):=by
 rw[EH];have HL:=bD (fun k=>Gg (s:=s) (x:=x) (k:=k));have HN:=bD (jq s b x w h hs);clear h;generalize jQ (L s) x=d at*;generalize x.after (L s) dy=y at*;go_enter func75,ntmps75;go_wp2_with fail;refine HN.o.mono ?_;rintro e w1 ⟨rfl,h1,mn⟩;have H1:=bD h1;have tj:=bD mn;clear mn;go_wp2_with fail;refine(dw s b _ w1 H1.o).mono ?_;rintro e w2 ⟨rfl,rfl⟩;cases y with
 |go k=>
  have pf:Rs.live (.go k)=true:=rfl;have hk:=HL.o k rfl;obtain⟨a,z,sh,hb,hi⟩:=h1;have HB:=bD hb;obtain⟨tW,rfl,rfl,rfl⟩:=hi;obtain⟨⟨c0,c1,c2,c3⟩,f1,f2,f3⟩:=sd hb;clear hb;by_cases hc:d=c
  ·have uv:((d.toNat:Int)!=(c.toNat:Int))=false:=by rw[hc];simp
   have HC:=bD hc;clear hc;go_wp2_with fail;refine(dw s b _ w1 H1.o).mono ?_;rintro e w3 ⟨rfl,rfl⟩;go_wp2_with fail;go_end0;refine⟨rfl,⟨_,_,_,wX HB.o ((k:Int)+1),?_⟩,bF tj.o (.inl rfl) _⟩;exact⟨hk,by omega,rfl,rfl⟩
  ·have uv:((d.toNat:Int)!=(c.toNat:Int))=true:=by rw[aQ];exact fun e=>hc ((mQ _ _).2 e)
   have HC:=bD hc;clear hc;have H2:Hy (gb (w1.setCell ⟨b,2,none⟩ (.int .i64 40)) b s (.bad 40)):=⟨_,_,_,Vc HB.o 40,rfl,by decide,rfl⟩;have ax3:Rs.live (.bad 40)=false:=rfl;go_wp2_with fail;refine(dw s b _ _ H2.o).mono ?_;rintro e w3 ⟨rfl,rfl⟩;go_wp2_with fail;go_end0;refine⟨rfl,?_,bF tj.o (.inl rfl) _⟩;exact H2.o
 |short=>
  have pf:Rs.live .short=false:=rfl;clear h1;go_wp2_with fail;refine(dw s b _ w1 H1.o).mono ?_;rintro e w3 ⟨rfl,rfl⟩;go_wp2_with fail;go_end0;exact⟨rfl,H1.o,tj.o⟩
 |bad n=>
  have pf:Rs.live (.bad n)=false:=rfl;clear h1;go_wp2_with fail;refine(dw s b _ w1 H1.o).mono ?_;rintro e w3 ⟨rfl,rfl⟩;go_wp2_with fail;go_end0;exact⟨rfl,H1.o,tj.o⟩
theorem jr{α:Type}{s:Bt}{x:Rs}(h:x.live=false)(f:Bt->Nat->eN α):x.after s f=x:=by
 cases x with
 |go k=>cases h
 |short=>rfl
 |bad n=>rfl
theorem H7{x:Rs}(h:x.live=false)(n:Int):x.fail n=x:=by
 cases x with
 |go k=>cases h
 |short=>rfl
 |bad n=>rfl
theorem ou{x:Rs}(h:x.live=true):∃k,x=.go k:=by
 cases x with
 |go k=>exact⟨k,rfl⟩
 |short=>cases h
 |bad n=>cases h
theorem H8{s:Bt}{x y:Rs}(h:y=x.after s dy):y.after s dy=y:=by
 subst h;cases x with
 |go k=>
  rw[Rs.after];cases hp:dy (s.drop k) k with
  |ok c r k1=>
   obtain⟨rfl,rfl,_⟩:=kh hp
   show Rs.of (dy (s.drop k1) k1)=_
   rw[hp]
  |short=>rfl
  |bad n=>rfl
 |short=>rfl
 |bad n=>rfl
theorem AS(p:UInt8->Bool)(s:ByteArray)(k:Nat):
 ((((Rs.go k).after (L s) dy).live&&p (jQ (L s) (.go k)))=true->k<s.size/\k<400/\(Rs.go k).after (L s) dy=.go k/\iY p ((L s).drop k) k=iY p ((L s).drop (k+1)) (k+1))/\
 ((((Rs.go k).after (L s) dy).live&&p (jQ (L s) (.go k)))=false->Rs.of (iY p ((L s).drop k) k)=(Rs.go k).after (L s) dy/\∀k',(Rs.go k).after (L s) dy=.go k'->k'=k/\iY p ((L s).drop k) k=.ok () ((L s).drop k) k):=by
 rcases Nat.lt_or_ge k s.size with nG|nG
 ·rcases Nat.lt_or_ge k 400 with h4|h4
  ·have e1:(Rs.go k).after (L s) dy=.go k:=by rw[Rs.after,rA nG h4];rfl
   have e2:jQ (L s) (.go k)=s[k]:=by rw[jQ,rA nG h4]
   rw[e1,e2];refine⟨fun h=>⟨nG,h4,rfl,Ki nG h4 (by simpa[Rs.live]using h)⟩,fun h=>?_⟩;have hp:p s[k]=false:=by simpa[Rs.live]using h
   rw[CN nG h4 hp];exact⟨rfl,fun k' h=>by injection h with h;exact⟨h.symm,rfl⟩⟩
  ·have e1:(Rs.go k).after (L s) dy=.bad 2:=by rw[Rs.after,pL nG h4];rfl
   rw[e1,CM nG h4];exact⟨fun h=>(by cases h),fun _=>⟨rfl,fun k' h=>(by cases h)⟩⟩
 ·have e1:(Rs.go k).after (L s) dy=.short:=by rw[Rs.after,oy nG];rfl
  rw[e1,Ba nG];exact⟨fun h=>(by cases h),fun _=>⟨rfl,fun k' h=>(by cases h)⟩⟩
theorem Mu(s:ByteArray){i k:Nat}(h:i<=k):s.extract i k++s.extract k (k+1)=s.extract i (k+1):=by
 apply tZ;rw[ow,dX,dX,dX,List.drop_take,List.drop_take,List.drop_take,show k+1-i=(k-i)+(k+1-k) by omega,List.take_add,List.drop_drop,show i+(k-i)=k by omega]
theorem zr{p:UInt8->Bool}{s:Bt}{k:Nat}{y:Rs}{F:eN Unit}(hF:F=iY p (s.drop k) k)(hy:Rs.of F=y):Rs.of (fg p (s.drop k) k)=y:=by
 rw[vD,<-hF,<-hy];cases F<;>rfl
def tf(b:Nat)(s:ByteArray)(w:World)(x:Rs)(f:Bt->Nat->eN Bt)(e:Ending)(w':World):Prop:=
 (∃v:ByteArray,e=.returned (.string v)/\v.size<=10000000/\∀k l r k',x=.go k->f ((L s).drop k) k=.ok l r k'->L v=l)/\gb w' b s (x.after (L s) f)/\w.grownBy w' (some b)
theorem Mv{p:UInt8->Bool}{s:ByteArray}{k k':Nat}{y:Rs}{F:eN Unit}(hF:F=iY p ((L s).drop k) k)(hy:Rs.of F=y)(hk:∀k2,y=.go k2->k2=k'/\F=.ok () ((L s).drop k') k'):
 ∀l r k2,fg p ((L s).drop k) k=.ok l r k2->L (s.extract k k')=l:=by
 intro l r k2 h;have h1:=zr hF hy;rw[h]at h1;obtain⟨-,h3⟩:=hk k2 h1.symm;rw[vD,<-hF,h3]at h;injection h with h _ _
 rw[<-h,dX,List.drop_take]
theorem Pf(s:ByteArray)(b k:Nat)(w:World)(h:gb w b s (.go k))(hs:s.size<=10000000):
 Calls prog 114 #[.pointer (some ⟨b,0,none⟩)] w (tf b s w (.go k) (fg gY)):=by
 generalize hF:iY gY ((L s).drop k) k=F;have HF:=bD hF;clear hF;go_enter func114,ntmps114;go_wp2_with fail;go_loopw [3] (fun o wr=>∃(q:ByteArray) (k':Nat),o=.string q/\k<=k'/\gb wr b s (.go k')/\w.grownBy wr (some b)/\Hy (q=s.extract k k')/\Hy (F=iY gY ((L s).drop k') k'))
  (fun _ wr=>s.size-(intOf ((wr.cell? ⟨b,1,none⟩).getD undef)).toNat)
 case atStart=>exact⟨_,k,rfl,dv _,h,World.grownBy.refl w _,by rw[Hy];exact tZ (by rw[dX,List.drop_take,Nat.sub_self];rfl),HF.o.symm⟩
 case round=>
  obtain⟨q,k',rfl,B4,hr,hg,HQ,EW⟩:=hrel;have HR:=bD hr;have kz:=bD (AS gY s k');have HKS:Hy (k'<=s.size):=by obtain⟨_,_,_,_,hi⟩:=hr;exact hi.1
  have HM:Hy ((wr.cell? ⟨b,1,none⟩).getD undef=.int .i64 (k':Int)):=by
   obtain⟨_,_,_,hb,hi⟩:=hr;rw[Hy,(sd hb).1.2.1,hi.2.1];rfl
  clear hr;have HN:=bD (jq s b (.go k') wr HR.o hs);generalize hc:jQ (L s) (.go k')=c at*;generalize hy:(Rs.go k').after (L s) dy=y at*;have HY:=bD hy;clear hc hy;go_wp2_with fail;refine HN.o.mono ?_;rintro e w1 ⟨rfl,h1,mn⟩;have H1:=bD h1;have tj:=bD (dR hg mn (fun _ h=>.inl h));clear mn h1;go_wp2_with fail;refine(dw s b _ w1 H1.o).mono ?_;rintro e w2 ⟨rfl,rfl⟩;have Sk:Hy ((y.live&&gY c)=false->tf b s w (.go k) (fg gY) (.returned (.string q)) w1):=by
   intro hf;obtain⟨e1,e2⟩:=kz.o.2 hf;have Y8:Rs.of F=y:=by rw[EW.o];exact e1
   refine⟨⟨q,rfl,?_,fun k2 l r k3 fA Ad=>?_⟩,?_,tj.o⟩
   ·rw[HQ.o,aA];omega
   ·injection fA with fA
    subst fA;rw[HQ.o];exact Mv HF.o.symm Y8 (fun k2 h=>by rw[EW.o];exact e2 k2 h) l r k3 Ad
   ·show gb w1 b s (Rs.of (fg gY ((L s).drop k) k))
    rw[zr HF.o.symm Y8];exact H1.o
  cases zJ:y.live with
  |false=>
   have xT:=bD (Sk.o (by rw[zJ];rfl));clear kz Sk;go_wp2_with fail;go_ret;exact xT.o
  |true=>
   cases hp:gY c with
   |false=>
    have xT:=bD (Sk.o (by rw[zJ,hp];rfl));have Io:c=34\/c=60\/c=62:=by
     simp only[gY,Bool.and_eq_false_iff,bne_eq_false_iff_eq]at hp;rcases hp with(h|h)|h
     ·exact .inl h
     ·exact .inr (.inl h)
     ·exact .inr (.inr h)
    clear kz Sk HN hp;rcases Io with rfl|rfl|rfl
    all_goals
     go_wp2_with fail;go_ret;exact xT.o
   |true=>
    obtain⟨e1,e2,e3,e4⟩:=kz.o.1 (by rw[zJ,hp];rfl);have HE4:=bD e4;have VO:((c.toNat:Int)==34)=false:=by
     have h:c≠34:=by intro h;subst h;cases hp
     rw[ai];exact fun e=>h ((mQ c 34).2 e)
    have Io:((c.toNat:Int)==60)=false:=by
     have h:c≠60:=by intro h;subst h;cases hp
     rw[ai];exact fun e=>h ((mQ c 60).2 e)
    have hp3:((c.toNat:Int)==62)=false:=by
     have h:c≠62:=by intro h;subst h;cases hp
     rw[ai];exact fun e=>h ((mQ c 62).2 e)
    clear kz Sk HN;subst e3;obtain⟨a,z,sh,hb,hi⟩:=H1.o;have HB:=bD hb;obtain⟨tW,rfl,rfl,rfl⟩:=hi;obtain⟨⟨c0,c1,c2,c3⟩,f1,f2,f3⟩:=sd hb;have hqs:q.size<=10000000:=by rw[HQ.o,aA];omega
    have hqt:q.size+(s.extract k' (k'+1)).size<=20000000:=by rw[aA];omega
    have hkb:(k':Int)<10000000:=by omega
    clear e4 hp hb;go_wp2_with fail;go_quiet (fail);go_wp2_with fail;go_roundw
    case rel=>exact⟨_,k'+1,rfl,by omega,⟨_,_,_,wX HB.o ((k':Int)+1),e1,by omega,rfl,rfl⟩,bF (dF tj.o _) (.inl rfl) _,by
     rw[Hy,HQ.o];exact Mu s B4,by rw[Hy,EW.o];exact HE4.o⟩
    case measure=>
     have e5:=fun n=>(sd (wX (HB.o.drewN n) ((k':Int)+1))).1.2.1;rw[HM.o];simp[intOf,e5];omega
theorem EI{s:Bt}{x:Rs}(h:(x.after s dy).live=false):jQ s x=0:=by
 cases x with
 |go k=>
  rw[jQ];rw[Rs.after]at h;cases hp:dy (s.drop k) k with
  |ok c r k1=>rw[hp]at h;cases h
  |short=>rfl
  |bad n=>rfl
 |short=>rfl
 |bad n=>rfl
theorem Vd{s:Bt}{k:Nat}{q:ByteArray}{y:Rs}(h1:Rs.of (fg ji (s.drop k) k)=y)(h2:∀l r k2,fg ji (s.drop k) k=.ok l r k2->L q=l):
 Rs.of (eO (s.drop k) k)=(if L q=[]then y.fail 40 else y)/\∀l r k2,eO (s.drop k) k=.ok l r k2->L q=l:=by
 unfold eO;cases h:fg ji (s.drop k) k with
 |ok l r k2=>
  rw[h]at h1;have e:=h2 l r k2 h;subst h1;simp only[eN.bind];rw[e];by_cases hl:l=[]
  ·rw[ae hl,ae hl];exact⟨rfl,fun _ _ _ h=>by cases h⟩
  ·rw[aa hl,aa hl];exact⟨rfl,fun _ _ _ h=>by injection h with h _ _⟩
 |short=>
  rw[h]at h1;subst h1;refine⟨?_,fun _ _ _ h=>by cases h⟩;split<;>rfl
 |bad n=>
  rw[h]at h1;subst h1;refine⟨?_,fun _ _ _ h=>by cases h⟩;split<;>rfl
theorem Sl(s:ByteArray)(b k:Nat)(w:World)(h:gb w b s (.go k))(hs:s.size<=10000000):
 Calls prog 73 #[.pointer (some ⟨b,0,none⟩)] w (tf b s w (.go k) eO):=by
 generalize hF:iY ji ((L s).drop k) k=F;have HF:=bD hF;clear hF;go_enter func73,ntmps73;go_wp2_with fail;go_loopw [3] (fun o wr=>∃(q:ByteArray) (k':Nat),o=.string q/\k<=k'/\gb wr b s (.go k')/\w.grownBy wr (some b)/\Hy (q=s.extract k k')/\Hy (F=iY ji ((L s).drop k') k'))
  (fun _ wr=>s.size-(intOf ((wr.cell? ⟨b,1,none⟩).getD undef)).toNat)
 case atStart=>exact⟨_,k,rfl,dv _,h,World.grownBy.refl w _,by rw[Hy];exact tZ (by rw[dX,List.drop_take,Nat.sub_self];rfl),HF.o.symm⟩
 case round=>
  obtain⟨q,k',rfl,B4,hr,hg,HQ,EW⟩:=hrel;have HR:=bD hr;have kz:=bD (AS ji s k');have HKS:Hy (k'<=s.size):=by obtain⟨_,_,_,_,hi⟩:=hr;exact hi.1
  have HM:Hy ((wr.cell? ⟨b,1,none⟩).getD undef=.int .i64 (k':Int)):=by
   obtain⟨_,_,_,hb,hi⟩:=hr;rw[Hy,(sd hb).1.2.1,hi.2.1];rfl
  clear hr;have HN:=bD (jq s b (.go k') wr HR.o hs);have Qp:=bD (EI (s:=L s) (x:=.go k'));have HID:Hy (((Rs.go k').after (L s) dy).after (L s) dy=(Rs.go k').after (L s) dy):=H8 rfl;generalize hc:jQ (L s) (.go k')=c at*;generalize hy:(Rs.go k').after (L s) dy=y at*;clear hc hy;have pf:(Rs.go k').live=true:=rfl;go_wp2_with fail;refine(dw s b _ wr HR.o).mono ?_;rintro e w0 ⟨rfl,rfl⟩;go_wp2_with fail;refine HN.o.mono ?_;rintro e w1 ⟨rfl,h1,mn⟩;have H1:=bD h1;have tj:=bD (dR hg mn (fun _ h=>.inl h));clear mn h1;go_wp2_with fail;refine(Gf c w1).mono ?_;rintro e w2 ⟨rfl,rfl⟩;cases hp:ji c with
  |false=>
   have Sk:Hy (Rs.of (eO ((L s).drop k) k)=(if L q=[]then y.fail 40 else y)/\∀l r k2,eO ((L s).drop k) k=.ok l r k2->L q=l):=by
    obtain⟨e1,e2⟩:=kz.o.2 (by rw[hp,Bool.and_false]);have Y8:Rs.of F=y:=by rw[EW.o];exact e1
    refine Vd (zr HF.o.symm Y8) (fun l r k2 h=>?_);rw[HQ.o];exact Mv HF.o.symm Y8 (fun k2 h=>by rw[EW.o];exact e2 k2 h) l r k2 h
   have HQS:Hy (q.size<=10000000):=by rw[Hy,HQ.o,aA];omega
   have yc:=bD (jq s b y w1 H1.o hs);rw[HID.o]at yc;clear kz HN Qp pf;generalize jQ (L s) y=c2 at*;cases hq:q.toList.isEmpty with
   |true=>
    have HQE:Hy (L q=[]):=by rw[cw]at hq;exact List.isEmpty_iff.1 hq
    go_wp2_with fail;refine yc.o.mono ?_;rintro e w3 ⟨rfl,h3,pa⟩;have H3:=bD h3;have ud:=bD (dR tj.o pa (fun _ h=>.inl h));clear h3 pa;go_wp2_with fail;refine(og s b y 40 (by decide) w3 H3.o).mono ?_;rintro e w4 ⟨rfl,h4,pc⟩;have H4:=bD h4;have qO:=bD (dR ud.o pc (fun _ h=>.inl h));clear h4 pc;go_wp2_with fail;go_ret;refine⟨⟨q,rfl,HQS.o,fun k2 l r k3 fA Ad=>?_⟩,?_,qO.o⟩
    ·injection fA with fA
     subst fA;exact Sk.o.2 l r k3 Ad
    ·show gb w4 b s (Rs.of (eO ((L s).drop k) k))
     rw[Sk.o.1,ae HQE.o];exact H4.o
   |false=>
    have HQE:Hy (¬L q=[]):=by rw[cw]at hq;exact fun h=>by rw[h]at hq;cases hq
    go_wp2_with fail;refine yc.o.mono ?_;rintro e w3 ⟨rfl,h3,pa⟩;have H3:=bD h3;have ud:=bD (dR tj.o pa (fun _ h=>.inl h));clear h3 pa;go_wp2_with fail;go_ret;refine⟨⟨q,rfl,HQS.o,fun k2 l r k3 fA Ad=>?_⟩,?_,ud.o⟩
    ·injection fA with fA
     subst fA;exact Sk.o.2 l r k3 Ad
    ·show gb w3 b s (Rs.of (eO ((L s).drop k) k))
     rw[Sk.o.1,aa HQE.o];exact H3.o
  |true=>
   have zJ:y.live=true:=by
    cases h:y.live with
    |true=>rfl
    |false=>rw[Qp.o h]at hp;cases hp
   obtain⟨e1,e2,e3,e4⟩:=kz.o.1 (by rw[zJ,hp];rfl);have HE4:=bD e4;clear kz HN Qp HID zJ;subst e3;obtain⟨a,z,sh,hb,hi⟩:=H1.o;have HB:=bD hb;obtain⟨tW,rfl,rfl,rfl⟩:=hi;obtain⟨⟨c0,c1,c2,c3⟩,f1,f2,f3⟩:=sd hb;have hqs:q.size<=10000000:=by rw[HQ.o,aA];omega
   have hqt:q.size+(s.extract k' (k'+1)).size<=20000000:=by rw[aA];omega
   have hkb:(k':Int)<10000000:=by omega
   clear e4 hb;go_wp2_with fail;go_quiet (fail);go_wp2_with fail;go_roundw
   case rel=>exact⟨_,k'+1,rfl,by omega,⟨_,_,_,wX HB.o ((k':Int)+1),e1,by omega,rfl,rfl⟩,bF (dF tj.o _) (.inl rfl) _,by
    rw[Hy,HQ.o];exact Mu s B4,by rw[Hy,EW.o];exact HE4.o⟩
   case measure=>
    have e5:=fun n=>(sd (wX (HB.o.drewN n) ((k':Int)+1))).1.2.1;rw[HM.o];simp[intOf,e5];omega
def JQ(b:Nat)(s:ByteArray)(w:World)(x:Rs)(f:Bt->Nat->eN Bt)(e:Ending)(w':World):Prop:=
 (∃n:Nat,e=.returned (.int .i64 n)/\n<=10000000/\∀k l r k',x=.go k->f ((L s).drop k) k=.ok l r k'->n=l.length)/\gb w' b s (x.after (L s) f)/\w.grownBy w' (some b)
theorem Sm{p:UInt8->Bool}{s:ByteArray}{k k':Nat}{y:Rs}{F:eN Unit}(hF:F=iY p ((L s).drop k) k)(hy:Rs.of F=y)(hk:∀k2,y=.go k2->k2=k'/\F=.ok () ((L s).drop k') k'):
 ∀l r k2,fg p ((L s).drop k) k=.ok l r k2->k'=k+l.length:=by
 intro l r k2 h;have h1:=zr hF hy;rw[h]at h1;obtain⟨rfl,-⟩:=hk k2 h1.symm;exact pM h
theorem Mw(s:ByteArray)(b k:Nat)(w:World)(h:gb w b s (.go k))(hs:s.size<=10000000):
 Calls prog 74 #[.pointer (some ⟨b,0,none⟩)] w (JQ b s w (.go k) (fg cV)):=by
 generalize hF:iY cV ((L s).drop k) k=F;have HF:=bD hF;clear hF;go_enter func74,ntmps74;go_wp2_with fail;go_loopw [3] (fun o wr=>∃(n k':Nat),o=.int .i64 n/\k'=k+n/\gb wr b s (.go k')/\w.grownBy wr (some b)/\Hy (F=iY cV ((L s).drop k') k'))
  (fun _ wr=>s.size-(intOf ((wr.cell? ⟨b,1,none⟩).getD undef)).toNat)
 case atStart=>exact⟨0,k,rfl,rfl,h,World.grownBy.refl w _,HF.o.symm⟩
 case round=>
  obtain⟨n,k',rfl,B4,hr,hg,EW⟩:=hrel;have Am:=bD B4;have HR:=bD hr;have kz:=bD (AS cV s k');have HKS:Hy (k'<=s.size):=by obtain⟨_,_,_,_,hi⟩:=hr;exact hi.1
  have SJ:n<=10000000:=by have:=HKS.o;omega
  have HM:Hy ((wr.cell? ⟨b,1,none⟩).getD undef=.int .i64 (k':Int)):=by
   obtain⟨_,_,_,hb,hi⟩:=hr;rw[Hy,(sd hb).1.2.1,hi.2.1];rfl
  clear hr B4;have HN:=bD (jq s b (.go k') wr HR.o hs);have Qp:=bD (EI (s:=L s) (x:=.go k'));have HID:Hy (((Rs.go k').after (L s) dy).after (L s) dy=(Rs.go k').after (L s) dy):=H8 rfl;generalize hc:jQ (L s) (.go k')=c at*;generalize hy:(Rs.go k').after (L s) dy=y at*;clear hc hy;have pf:(Rs.go k').live=true:=rfl;go_wp2_with fail;refine(dw s b _ wr HR.o).mono ?_;rintro e w0 ⟨rfl,rfl⟩;go_wp2_with fail;refine HN.o.mono ?_;rintro e w1 ⟨rfl,h1,mn⟩;have H1:=bD h1;have tj:=bD (dR hg mn (fun _ h=>.inl h));clear mn h1;go_wp2_with fail;refine(JP c w1).mono ?_;rintro e w2 ⟨rfl,rfl⟩;cases hp:cV c with
  |false=>
   have Sk:Hy (Rs.of (fg cV ((L s).drop k) k)=y/\∀l r k2,fg cV ((L s).drop k) k=.ok l r k2->n=l.length):=by
    obtain⟨e1,e2⟩:=kz.o.2 (by rw[hp,Bool.and_false]);have Y8:Rs.of F=y:=by rw[EW.o];exact e1
    refine⟨zr HF.o.symm Y8,fun l r k2 h=>?_⟩;have:=Sm HF.o.symm Y8 (fun k2 h=>by rw[EW.o];exact e2 k2 h) l r k2 h;have:=Am.o;omega
   have yc:=bD (jq s b y w1 H1.o hs);rw[HID.o]at yc;clear kz HN Qp pf;generalize jQ (L s) y=c2 at*;go_wp2_with fail;refine yc.o.mono ?_;rintro e w3 ⟨rfl,h3,pa⟩;have H3:=bD h3;have ud:=bD (dR tj.o pa (fun _ h=>.inl h));clear h3 pa;go_wp2_with fail;go_ret;refine⟨⟨n,rfl,SJ,fun k2 l r k3 fA Ad=>?_⟩,?_,ud.o⟩
   ·injection fA with fA
    subst fA;exact Sk.o.2 l r k3 Ad
   ·show gb w3 b s (Rs.of (fg cV ((L s).drop k) k))
    rw[Sk.o.1];exact H3.o
  |true=>
   have zJ:y.live=true:=by
    cases h:y.live with
    |true=>rfl
    |false=>rw[Qp.o h]at hp;cases hp
   obtain⟨e1,e2,e3,e4⟩:=kz.o.1 (by rw[zJ,hp];rfl);have HE4:=bD e4;clear kz HN Qp HID zJ;subst e3;obtain⟨a,z,sh,hb,hi⟩:=H1.o;have HB:=bD hb;obtain⟨tW,rfl,rfl,rfl⟩:=hi;obtain⟨⟨c0,c1,c2,c3⟩,f1,f2,f3⟩:=sd hb;have hkb:(k':Int)<10000000:=by omega
   clear e4 hb;go_wp2_with fail;go_roundw
   case rel=>exact⟨n+1,k'+1,by go_num,by have:=Am.o;omega,⟨_,_,_,wX HB.o ((k':Int)+1),e1,by omega,rfl,rfl⟩,bF tj.o (.inl rfl) _,by rw[Hy,EW.o];exact HE4.o⟩
   case measure=>
    have e5:=(sd (wX HB.o ((k':Int)+1))).1.2.1;rw[HM.o];simp[intOf,e5];omega
theorem Mx(s:ByteArray)(b:Nat)(x:Rs)(hx:x.live=false)(w:World)(h:gb w b s x)(hs:s.size<=10000000):
 Calls prog 74 #[.pointer (some ⟨b,0,none⟩)] w (JQ b s w x (fg cV)):=by
 have H:=bD h;have HX:=bD hx;have HN:=bD (jq s b x w h hs);rw[jr hx]at HN;generalize jQ (L s) x=c at*;clear h;go_enter func74,ntmps74;go_wp2_with fail;go_loopw [3] (fun o wr=>o=.int .i64 0/\wr=w) (fun _ _=>0)
 case atStart=>exact⟨rfl,rfl⟩
 case round=>
  obtain⟨rfl,rfl⟩:=hrel;go_wp2_with fail;refine(dw s b _ _ H.o).mono ?_;rintro e w0 ⟨rfl,rfl⟩;go_wp2_with fail;refine HN.o.mono ?_;rintro e w3 ⟨rfl,h3,pa⟩;have H3:=bD h3;have ud:=bD pa;clear h3 pa;go_wp2_with fail;go_ret;refine⟨⟨0,rfl,ax _,fun k2 l r k3 fA Ad=>?_⟩,?_,ud.o⟩
  ·rw[fA]at hx;cases hx
  ·rw[jr HX.o];exact H3.o
theorem Sn(s:ByteArray)(b:Nat)(x:Rs)(hx:x.live=false)(w:World)(h:gb w b s x)(hs:s.size<=10000000):
 Calls prog 73 #[.pointer (some ⟨b,0,none⟩)] w (tf b s w x eO):=by
 have H:=bD h;have HX:=bD hx;have HN:=bD (jq s b x w h hs);rw[jr hx]at HN;generalize jQ (L s) x=c at*;clear h;go_enter func73,ntmps73;go_wp2_with fail;go_loopw [3] (fun o wr=>o=.string ⟨#[]⟩/\wr=w) (fun _ _=>0)
 case atStart=>exact⟨rfl,rfl⟩
 case round=>
  obtain⟨rfl,rfl⟩:=hrel;go_wp2_with fail;refine(dw s b _ _ H.o).mono ?_;rintro e w0 ⟨rfl,rfl⟩;go_wp2_with fail;refine HN.o.mono ?_;rintro e w3 ⟨rfl,h3,pa⟩;have H3:=bD h3;have ud:=bD pa;clear h3 pa;go_wp2_with fail;refine(og s b x 40 (by decide) w3 H3.o).mono ?_;rintro e w4 ⟨rfl,h4,pc⟩;have H4:=bD h4;have qO:=bD (dR ud.o pc (fun _ h=>.inl h));clear h4 pc;go_wp2_with fail;go_ret;refine⟨⟨_,rfl,ax _,fun k2 l r k3 fA Ad=>?_⟩,?_,qO.o⟩
  ·rw[fA]at hx;cases hx
  ·rw[jr HX.o];have h:=H4.o;rw[H7 HX.o]at h;exact h
theorem Pg(s:ByteArray)(b:Nat)(x:Rs)(hx:x.live=false)(w:World)(h:gb w b s x)(hs:s.size<=10000000):
 Calls prog 114 #[.pointer (some ⟨b,0,none⟩)] w (tf b s w x (fg gY)):=by
 have H:=bD h;have HX:=bD hx;have HN:=bD (jq s b x w h hs);rw[jr hx]at HN;generalize jQ (L s) x=c at*;clear h;go_enter func114,ntmps114;go_wp2_with fail;go_loopw [3] (fun o wr=>o=.string ⟨#[]⟩/\wr=w) (fun _ _=>0)
 case atStart=>exact⟨rfl,rfl⟩
 case round=>
  obtain⟨rfl,rfl⟩:=hrel;go_wp2_with fail;refine HN.o.mono ?_;rintro e w3 ⟨rfl,h3,pa⟩;have H3:=bD h3;have ud:=bD pa;clear h3 pa;go_wp2_with fail;refine(dw s b _ _ H3.o).mono ?_;rintro e w0 ⟨rfl,rfl⟩;go_wp2_with fail;go_ret;refine⟨⟨_,rfl,ax _,fun k2 l r k3 fA Ad=>?_⟩,?_,ud.o⟩
  ·rw[fA]at hx;cases hx
  ·rw[jr HX.o];exact H3.o
theorem vu(s:ByteArray)(b:Nat)(x:Rs)(w:World)(h:gb w b s x)(hs:s.size<=10000000):
 Calls prog 73 #[.pointer (some ⟨b,0,none⟩)] w (tf b s w x eO):=by
 cases hx:x.live with
 |true=>
  obtain⟨k,rfl⟩:=ou hx;exact Sl s b k w h hs
 |false=>exact Sn s b x hx w h hs
theorem zt(s:ByteArray)(b:Nat)(x:Rs)(w:World)(h:gb w b s x)(hs:s.size<=10000000):
 Calls prog 114 #[.pointer (some ⟨b,0,none⟩)] w (tf b s w x (fg gY)):=by
 cases hx:x.live with
 |true=>
  obtain⟨k,rfl⟩:=ou hx;exact Pf s b k w h hs
 |false=>exact Pg s b x hx w h hs
theorem wY(s:ByteArray)(b:Nat)(x:Rs)(w:World)(h:gb w b s x)(hs:s.size<=10000000):
 Calls prog 74 #[.pointer (some ⟨b,0,none⟩)] w (JQ b s w x (fg cV)):=by
 cases hx:x.live with
 |true=>
  obtain⟨k,rfl⟩:=ou hx;exact Mw s b k w h hs
 |false=>exact Mx s b x hx w h hs
end Go.Proofs.YtejafaaihodehaaGreatDoor
