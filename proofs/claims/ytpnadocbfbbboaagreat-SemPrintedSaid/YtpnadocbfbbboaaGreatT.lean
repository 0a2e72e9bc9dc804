/- Part of a proof. -/
import Derived.Test.YtpnadocbfbbboaaGreatO
import Derived.Test.YtpnadocbfbbboaaGreatP

namespace wU
open Ax Go V7 lf mG
def ZH:List UInt8:=[118,97,114]
def ZI:List UInt8:=[108,101,116]
def wIf:List UInt8:=[105,102]
def yA:List UInt8:=[101,108,115,101]
def Jw:List UInt8:=[119,104,105,108,101]
def RC:List UInt8:=[114,101,116,117,114,110]
def Jx:List UInt8:=[112,114,105,110,116]
def x0(es:List E):List TS:=match es with|e::_=>uX e | []=>[]
def x1(es:List E):List TS:=match es with|_::e::_=>uX e|_=>[]
def d0(es:List E):Int:=match es with|e::_=>dX e | []=>0
def d1(es:List E):Int:=match es with|_::e::_=>dX e|_=>0
def sO(k:Int)(nm on:List UInt8)(od:Int)(es:List E)(b c:List TS)(ce:Bool):List TS:=
 if k=1 then W ZH::Nm nm::W [58]::(uT on od++[W [59]])
 else if k=2 then W ZI::Nm nm::W [58]::(uT on od++W [61]::(x0 es++[W [59]]))
 else if k=3 then Nm nm::W [61]::(x0 es++[W [59]])
 else if k=4 then x0 es++W [61]::(x1 es++[W [59]])
 else if k=5 then W wIf::(x0 es++W [123]::(b++W [125]::(if ce then [] else W yA::W [123]::(c++[W [125]]))))
 else if k=6 then W Jw::(x0 es++W [123]::(b++[W [125]]))
 else if k=7 then W RC::(x0 es++[W [59]])
 else if k=8 then W Jx::(x0 es++[W [59]])
 else x0 es++[W [59]]
mutual
def uS:Sm->List TS
 |.mk k nm on od es bd el _ _=>sO k nm on od es (uB bd) (uB el) el.isEmpty
def uB:List Sm->List TS
 |[]=>[]
 |s::l=>uS s++uB l
end
theorem V2(s:Sm):uS s=sO s.k s.nm s.on s.od s.es (uB s.bd) (uB s.el) s.el.isEmpty:=by
 obtain⟨k,nm,on,od,es,bd,el,a,ref⟩:=s
 (conv=>lhs;unfold uS)<;>rfl
def sD(k:Int)(es:List E)(b c:Int):Int:=
 if k=4 then max (d0 es) (d1 es)
 else if k=5 then max (d0 es) (max (b+1) (c+1))
 else if k=6 then max (d0 es) (b+1)
 else if k=1 then 0 else d0 es
mutual
def dS:Sm->Int
 |.mk k _ _ _ es bd el _ _=>sD k es (dB bd) (dB el)
def dB:List Sm->Int
 |[]=>0|s::l=>max (dS s) (dB l)
end
theorem abb(s:Sm):dS s=sD s.k s.es (dB s.bd) (dB s.el):=by
 obtain⟨k,nm,on,od,es,bd,el,a,ref⟩:=s
 (conv=>lhs;unfold dS)<;>rfl
mutual
def V3:Sm->Sm
 |.mk k nm on od es bd el _ _=>.mk k (cv k nm) (bI k on) (bJ k od) (rV es) (Cm bd) (Cm el) 0 0
def Cm:List Sm->List Sm
 |[]=>[]
 |s::l=>V3 s::Cm l
end
theorem NP(s:Sm):V3 s=.mk s.k (cv s.k s.nm) (bI s.k s.on) (bJ s.k s.od) (rV s.es) (Cm s.bd) (Cm s.el) 0 0:=by
 obtain⟨k,nm,on,od,es,bd,el,a,ref⟩:=s
 (conv=>lhs;unfold V3)<;>rfl
theorem Pz:∀l r:List Sm,Cm (l++r)=Cm l++Cm r
 |[],r=>rfl|e::l,r=>by simp only[List.cons_append,Cm,Pz l r]
def zd(k:Int)(es:List E):Prop:=
 (k=1->es=[])/\(k=2\/k=3\/k=5\/k=6\/k=8->∃e,es=[e])/\(k=4->∃a b,es=[a,b]/\(a.k=5\/a.k=6))/\(k=7->es=[]\/∃e,es=[e])/\(k=9->∃e,es=[e]/\e.k=7)
mutual
def WfS:Sm->Prop
 |.mk k _ _ od es bd el _ _=>1<=k/\k<=9/\(k=1\/k=2->0<=od/\od<=3)/\zd k es/\Wfs es/\(k≠5->k≠6->bd=[])/\(k≠5->el=[])/\PA bd/\PA el
def PA:List Sm->Prop
 |[]=>True|s::l=>WfS s/\PA l
end
theorem NQ(s:Sm):WfS s↔1<=s.k/\s.k<=9/\(s.k=1\/s.k=2->0<=s.od/\s.od<=3)/\zd s.k s.es/\Wfs s.es/\(s.k≠5->s.k≠6->s.bd=[])/\(s.k≠5->s.el=[])/\PA s.bd/\PA s.el:=by
 obtain⟨k,nm,on,od,es,bd,el,a,ref⟩:=s;unfold WfS;exact Iff.rfl
theorem vC:∀l:List Sm,PA l↔∀e∈l,WfS e
 |[]=>by simp[PA]|e::l=>by simp[PA,vC l]
theorem aiH(s:Sm):0<=dS s:=by
 have h0:0<=d0 s.es:=by unfold d0;split;exact Hx _;exact Int.le_refl _
 rw[abb];unfold sD;repeat' split
 all_goals omega
theorem abe:∀l:List Sm,0<=dB l
 |[]=>Int.le_refl _|s::l=>by
  have:=aiH s;have:=abe l;unfold dB;omega
theorem aiI{s:Sm}(hw:WfS s):∃y r,uS s=y::r/\ke y [125]=false/\ke y yA=false:=by
 obtain⟨k1,k9,_,mO,qI,_⟩:=(NQ s).1 hw;obtain⟨e1,e2,e4,e7,e9⟩:=mO;rw[tn]at qI;have hx:∀e,Wf e->∀l,∃y r,uX e++l=y::r/\ke y [125]=false/\ke y yA=false:=λe he l=>by
  obtain⟨y,r,h1,h2⟩:=VX e he;exact⟨y,r++l,by rw[h1];rfl,Hz h2 (by decide),Hz h2 (by decide)⟩
 rw[V2];unfold sO;by_cases c1:s.k=1;rw[if_pos c1];exact⟨_,_,rfl,by decide,by decide⟩;rw[if_neg c1];by_cases c2:s.k=2;rw[if_pos c2];exact⟨_,_,rfl,by decide,by decide⟩;rw[if_neg c2];by_cases c3:s.k=3;rw[if_pos c3];exact⟨_,_,rfl,nX _ _,nX _ _⟩;rw[if_neg c3];by_cases c4:s.k=4;rw[if_pos c4];obtain⟨a,b,h,_⟩:=e4 c4;rw[h]at qI ⊢;exact hx a (qI a List.mem_cons_self) _;rw[if_neg c4];by_cases c5:s.k=5;rw[if_pos c5];exact⟨_,_,rfl,by decide,by decide⟩;rw[if_neg c5];by_cases c6:s.k=6;rw[if_pos c6];exact⟨_,_,rfl,by decide,by decide⟩;rw[if_neg c6];by_cases c7:s.k=7;rw[if_pos c7];exact⟨_,_,rfl,by decide,by decide⟩;rw[if_neg c7];by_cases c8:s.k=8;rw[if_pos c8];exact⟨_,_,rfl,by decide,by decide⟩;rw[if_neg c8];obtain⟨a,h,_⟩:=e9 (by omega);rw[h]at qI ⊢;exact hx a (qI a List.mem_cons_self) _
def PS(s:Sm):Prop:=∀(T:List Tk)(f:Nat)(q:RQ)(s':Sm)(r:RQ),oB T f q=some (s',r)->q.fe=0->0<=q.op->q.op<=50->(r.fe=0\/q.op+dS s<=50)->
 th T q.at_ (uS s)->ke (bR T (q.at_+(uS s).length)) yA=false->r=mv q (uS s).length/\V3 s'=V3 s
theorem Ay{T:List Tk}:∀(l:List Sm)(acc:List Sm)(f:Nat)(q:RQ)(ss:List Sm)(r:RQ),jT T f acc q=some (ss,r)->(∀s∈l,PS s)->PA l->q.fe=0->1<=q.op->q.op<=50->(r.fe=0\/q.op+dB l<=50)->
  th T q.at_ (uB l++[W [125]])->r=⟨q.at_+(uB l).length+1,q.op-1,q.fe,q.fa⟩/\Cm ss=Cm acc++Cm l
 |l,acc,0,q,es,r,h,_,_,_,_,_,_,_=>by simp[jT]at h|[],acc,f+1,q,es,r,h,hp,_,hf,h1,h5,hd,hh=>by
  unfold jT at h;have t1:bR T q.at_=W [125]:=hh.1;rw[if_neg (by rintro⟨_,b⟩;rw[aW hf,t1]at b;revert b;decide)]at h;cases h;rw[oX hf (by rw[t1];decide) (by omega) (by omega)];exact⟨by simp[uB],by simp[Cm]⟩
 |s::l,acc,f+1,q,es,r,h,hp,hw,hf,h1,h5,hd,hh=>by
  unfold jT at h;unfold PA at hw;obtain⟨y,l0,hy,y1,_⟩:=aiI hw.1;simp only[uB,List.append_assoc]at hh;rw[cT]at hh;obtain⟨t1,t2⟩:=hh;have ty:bR T q.at_=y:=by rw[hy]at t1;exact t1.1
  rw[if_pos ⟨hf,by rw[aW hf,ty];exact y1⟩]at h;obtain⟨⟨x1,x2⟩,a1,a2⟩:=Option.bind_eq_some_iff.1 h;dsimp only at a2;have hm:dB (s::l)=max (dS s) (dB l):=rfl;rw[hm]at hd;have aiJ:eK T x2 r:=((lN T f).2.2 _ _ _ _ a2);have tK:ke (bR T (q.at_+(uS s).length)) yA=false:=by
   cases l with
   |nil=>
    have:bR T (q.at_+(uS s).length)=W [125]:=t2.1;rw[this];decide
   |cons s2 l2=>
    unfold PA at hw;obtain⟨z,l3,hz,_,z2⟩:=aiI hw.2.1;simp only[uB,hz,List.cons_append]at t2;have:bR T (q.at_+(uS s).length)=z:=t2.1;rw[this];exact z2
  obtain⟨rfl,b2⟩:=hp s List.mem_cons_self T f q x1 x2 a1 hf (by omega) h5 (hd.imp (λh=>aiJ.hJ h) λh=>by omega) t1 tK;obtain⟨c1,c2⟩:=Ay l (acc++[x1]) f _ es r a2 (λy hy=>hp y (List.mem_cons_of_mem _ hy)) hw.2 hf h1 h5 (hd.imp id λh=>by simp only[mv];omega) t2;refine⟨?_,?_⟩;rw[c1];simp only[mv,uB,List.length_append,RQ.mk.injEq,and_true];omega;rw[c2,Pz];simp only[Cm,b2,List.append_assoc,List.cons_append,List.nil_append]
theorem fM{T:List Tk}{l:List Sm}{f:Nat}{q r:RQ}{ss:List Sm}(h:gD T f q=some (ss,r))(hp:∀s∈l,PS s)(hw:PA l)(hf:q.fe=0)(h0:0<=q.op)(hd:r.fe=0\/q.op+(dB l+1)<=50)
  (hh:th T q.at_ (W [123]::(uB l++[W [125]]))):r=mv q ((uB l).length+2)/\Cm ss=Cm l:=by
 cases f with
 |zero=>simp[gD]at h|succ f=>
  unfold gD at h;obtain⟨t1,t2⟩:=hh;change bR T _=_ at t1;have UG:=abe l;obtain⟨o1,o2⟩:=Br (d:=dB l+1) (r:=r) hf h0 (by rw[t1];decide) hd (by omega) ((lN T f).2.2 _ _ _ _ h);rw[o1]at h;obtain⟨c1,c2⟩:=Ay l [] f (om q) ss r h hp hw hf (by simp only[om];omega) (by simp only[om];omega) (hd.imp id λh=>by simp only[om];omega) t2;refine⟨?_,by rw[c2];rfl⟩;rw[c1];simp only[om,mv,RQ.mk.injEq,and_true];exact⟨by omega,by omega⟩
end wU
namespace wU
open Ax Go V7 lf mG
theorem yB{T:List Tk}{f:Nat}{q r:RQ}{e x:E}(hw:Wf e)(h:eY T f 0 q=some (x,r))(hf:q.fe=0)(h0:0<=q.op)(h5:q.op<=50)(hd:r.fe=0\/q.op+dX e<=50)(hh:th T q.at_ (uX e))(hs:CI T 0 (q.at_+(uX e).length)) :
  r=mv q (uX e).length/\er x=er e:=by
 obtain⟨u1,u2⟩:=wW (l:=1) (e:=e) (tq e.k).1;have:=(aej e hw).1 0 (by omega) T f q x r h hf h0 h5 (by rw[u2];exact hd) (by rw[u1];exact hh) (by rw[u1];exact hs);rw[u1]at this;exact this
theorem Bt{T:List Tk}{q:RQ}{nm on:List UInt8}{od:Int}{l:List TS}(hf:q.fe=0)(h0:0<=od)(h3:od<=3)(hh:th T q.at_ (Nm nm::W [58]::(uT on od++l))) :
  cU T q=(⟨nm,on,od,(dQ T q).a⟩,mv q ((uT on od).length+2))/\th T (q.at_+((uT on od).length+2)) l:=by
 obtain⟨t1,t2,t3⟩:=hh;rw[cT]at t3;change bR T _=_ at t1;change bR T _=_ at t2;have e1:=pP hf t1;have e2:cH T (aA q) [58]=aA (aA q):=gW (q:=aA q) hf (by rw[show bR T (aA q).at_=_ from t2];decide);have e3:=Jr (T:=T) (q:=aA (aA q)) hf h0 h3 t3.1;unfold cU;rw[e1];simp only;rw[e2,e3];refine⟨?_,?_⟩;simp only[Prod.mk.injEq,true_and];simp only[mv,aA,RQ.mk.injEq,and_true];omega;have:=t3.2;rw[show q.at_+((uT on od).length+2)=q.at_+1+1+(uT on od).length by omega];exact this
theorem ze{T:List Tk}{q:RQ}{s:List UInt8}(ht:bR T q.at_=W s)(hf:q.fe=0):cH T q s=mv q 1:=gW hf (by rw[ht];simp[ke,W])
theorem ael{x e:E}(h:er x=er e):x.k=e.k:=by
 rw[tj,tj]at h;exact(E.mk.inj h).1
theorem aiK{x e:E}(h:er x=er e):jV x.k x.nm=jV e.k e.nm:=by
 rw[tj,tj]at h;exact(E.mk.inj h).2.2.1
theorem rW(k:Int)(nm on:List UInt8)(od:Int)(es:List E)(bd el:List Sm)(a ref:Int):V3 (.mk k nm on od es bd el a ref)=.mk k (cv k nm) (bI k on) (bJ k od) (rV es) (Cm bd) (Cm el) 0 0:=by
 (conv=>lhs;unfold V3)<;>rfl
theorem abf{q:RQ}{a b:Nat}(h:a=b):mv q a=mv q b:=by rw[h]
theorem EP(s:Sm):WfS s->PS s:=by
 induction s using Sm.xN with
 |_ s C8 nB=>
  intro hw T f q s' r h hf h0 h5 hd hh tK;obtain⟨k1,k9,hod,mO,qI,NF,Rm,hwb,hwe⟩:=(NQ s).1 hw;obtain⟨e1,e2,e4,e7,e9⟩:=mO;have pb:∀x∈s.bd,PS x:=λx hx=>C8 x hx ((vC _).1 hwb x hx);have pe:∀x∈s.el,PS x:=λx hx=>nB x hx ((vC _).1 hwe x hx);rw[tn]at qI;have he:=NP s;rw[V2]at hh tK ⊢;rw[abb]at hd;unfold sO at hh tK ⊢;unfold sD at hd;cases f with
  |zero=>simp[oB]at h|succ f=>
  unfold oB at h;rw[aW (q:=q) hf,aW (q:=q) hf,aW (q:=q) hf,aW (q:=q) hf,aW (q:=q) hf,aW (q:=q) hf]at h;by_cases c1:s.k=1;rw[if_pos c1]at hh tK ⊢;obtain⟨t,hh⟩:=hh;change bR T _=_ at t;obtain⟨o0,o3⟩:=hod (.inl c1);obtain⟨p1,p2⟩:=Bt (q:=aA q) hf o0 o3 hh;have t2:bR T (mv (aA q) ((uT s.on s.od).length+2)).at_=W [59]:=p2.1;rw[t,if_pos (by decide),p1,gW (q:=mv (aA q) _) hf (by rw[t2];decide)]at h;cases h;refine⟨by simp only[mv,aA,List.length_cons,List.length_append,List.length_nil,RQ.mk.injEq,and_true];omega,?_⟩;rw[rW,he,c1,NF (by omega) (by omega),Rm (by omega),e1 c1];rw[if_neg c1]at hh tK ⊢;by_cases c2:s.k=2;rw[if_pos c2]at hh tK ⊢;rw[if_neg (by omega),if_neg (by omega),if_neg (by omega),if_neg (by omega)]at hd;obtain⟨e,Bu⟩:=e2 (.inl c2);rw[Bu]at hh qI hd ⊢;simp only[x0,d0]at hh hd ⊢;obtain⟨t,hh⟩:=hh;change bR T _=_ at t;obtain⟨o0,o3⟩:=hod (.inr c2);obtain⟨p1,p2⟩:=Bt (q:=aA q) hf o0 o3 hh;rw[iY,cT]at p2;obtain⟨t2,t3,t4,_⟩:=p2;have Jv:bR T (mv (aA q) ((uT s.on s.od).length+2)).at_=W [61]:=t2;rw[t,if_neg (by decide),if_pos (by decide),p1,gW (q:=mv (aA q) _) hf (by rw[Jv];decide)]at h;obtain⟨⟨y1,y2⟩,a1,a2⟩:=Option.bind_eq_some_iff.1 h;simp only[Option.some.injEq,Prod.mk.injEq]at a2;obtain⟨rfl,rfl⟩:=a2;have R9:bR T (mv (mv (mv (aA q) ((uT s.on s.od).length+2)) 1) (uX e).length).at_=W [59]:=t4;obtain⟨rfl,b2⟩:=yB (qI e List.mem_cons_self) a1 hf h0 h5 (hd.imp (λh=>aI.hJ h) id) t3 (jt R9 (by decide));rw[ze R9 hf];refine⟨by simp only[mv,aA,List.length_cons,List.length_append,List.length_nil,RQ.mk.injEq,and_true];omega,?_⟩;rw[rW,he,c2,NF (by omega) (by omega),Rm (by omega),Bu];simp only[rV,b2];rw[if_neg c2]at hh tK ⊢;by_cases c3:s.k=3;rw[if_pos c3]at hh tK ⊢;rw[if_neg (by omega),if_neg (by omega),if_neg (by omega),if_neg (by omega)]at hd;obtain⟨e,Bu⟩:=e2 (.inr (.inl c3));rw[Bu]at hh qI hd ⊢;simp only[x0,d0]at hh hd ⊢;obtain⟨t,t2,hh⟩:=hh;rw[cT]at hh;obtain⟨t3,t4,_⟩:=hh;change bR T _=_ at t;change bR T _=_ at t2;rw[t]at h;simp only[nX,Bool.false_eq_true,if_false]at h;unfold mW at h;obtain⟨⟨y1,y2⟩,a1,a2⟩:=Option.bind_eq_some_iff.1 h;dsimp only at a2;have hwv:Wf (Em 4 0 s.nm [] 0 [] 0):=(Hw _).2 ⟨rfl,(λh=>absurd h (by simp[Em,E.k])),(λh=>absurd h (by simp[Em,E.k])),trivial⟩;have hg:r.fe=0->y2.fe=0:=λhr=>by
   split at a2;obtain⟨⟨z1,z2⟩,b1,b2⟩:=Option.bind_eq_some_iff.1 a2;simp only[Option.some.injEq,Prod.mk.injEq]at b2;obtain⟨_,rfl⟩:=b2;have h1:=(aI.trans ((dK b1).trans aI)).hJ hr;split at h1;exact h1;exact(eG.hJ h1);simp only[Option.some.injEq,Prod.mk.injEq]at a2;obtain⟨_,rfl⟩:=a2;have h1:=aI.hJ hr;split at h1;exact eG.hJ h1;exact h1
  have hdz:y2.fe=0\/q.op+dX (Em 4 0 s.nm [] 0 [] 0)<=50:=hd.imp hg λh=>by
   have:dX (Em 4 0 s.nm [] 0 [] 0)=0:=rfl;have:=Hx e;omega
  obtain⟨rfl,b2⟩:=yB hwv a1 hf h0 h5 hdz ⟨t,trivial⟩ (jt (x:=W [61]) t2 (by decide));have hk4:y1.k=4:=ael b2;have hnm:y1.nm=s.nm:=by have:=aiK b2;rw[hk4]at this;exact this
  have Jv:bR T (mv q (uX (Em 4 0 s.nm [] 0 [] 0)).length).at_=W [61]:=t2;rw[aW (q:=mv q _) hf,Jv,if_pos (by decide),if_pos (.inl hk4),gW (q:=mv q _) hf (by rw[Jv];decide)]at a2;obtain⟨⟨z1,z2⟩,b1,b3⟩:=Option.bind_eq_some_iff.1 a2;rw[if_pos hk4]at b3;simp only[Option.some.injEq,Prod.mk.injEq]at b3;obtain⟨rfl,rfl⟩:=b3;have R9:bR T (mv (mv (mv q (uX (Em 4 0 s.nm [] 0 [] 0)).length) 1) (uX e).length).at_=W [59]:=t4;obtain⟨rfl,d2⟩:=yB (qI e List.mem_cons_self) b1 hf h0 h5 (hd.imp (λh=>aI.hJ h) id) t3 (jt R9 (by decide));rw[ze R9 hf];refine⟨?_,?_⟩;have:(uX (Em 4 0 s.nm [] 0 [] 0)).length=1:=rfl;simp only[mv,List.length_cons,List.length_append,List.length_nil,RQ.mk.injEq,and_true];omega;rw[rW,he,c3,NF (by omega) (by omega),Rm (by omega),Bu,hnm];simp only[rV,d2]
  rfl
  rw[if_neg c3]at hh tK ⊢;by_cases c4:s.k=4;rw[if_pos c4]at hh tK ⊢;rw[if_pos c4]at hd;obtain⟨a,b,Bu,hak⟩:=e4 c4;rw[Bu]at hh qI hd ⊢;simp only[x0,x1,d0,d1]at hh hd ⊢;have hwa:=qI a List.mem_cons_self;obtain⟨y,l0,hy,hb⟩:=VX a hwa;rw[cT,iY,cT]at hh;obtain⟨t1,t2,t3,t4,_⟩:=hh;have t:bR T q.at_=y:=by rw[hy]at t1;exact t1.1
  change bR T _=_ at t2;have iz:∀w,(ke (W Ci) w||ke (W wV) w||ke (W Cj) w||ke (W tR) w||ke (W Fa) w||ke (W Ck) w||ke (W [45]) w||ke (W [33]) w||ke (W [40]) w)=false->ke y w=false:=λw hw=>Hz hb hw;rw[t,iz _ (by decide),iz _ (by decide),iz _ (by decide),iz _ (by decide),iz _ (by decide),iz _ (by decide)]at h;simp only[Bool.false_eq_true,if_false]at h;unfold mW at h;obtain⟨⟨y1,y2⟩,a1,a2⟩:=Option.bind_eq_some_iff.1 h;dsimp only at a2;have hg:r.fe=0->y2.fe=0:=λhr=>by
   split at a2;obtain⟨⟨z1,z2⟩,b1,b2⟩:=Option.bind_eq_some_iff.1 a2;simp only[Option.some.injEq,Prod.mk.injEq]at b2;obtain⟨_,rfl⟩:=b2;have h1:=(aI.trans ((dK b1).trans aI)).hJ hr;split at h1;exact h1;exact(eG.hJ h1);simp only[Option.some.injEq,Prod.mk.injEq]at a2;obtain⟨_,rfl⟩:=a2;have h1:=aI.hJ hr;split at h1;exact eG.hJ h1;exact h1
  obtain⟨rfl,b2⟩:=yB hwa a1 hf h0 h5 (hd.imp hg λh=>by omega) t1 (jt (x:=W [61]) t2 (by decide));have hk4:y1.k=5\/y1.k=6:=by rw[ael b2];exact hak
  have Jv:bR T (mv q (uX a).length).at_=W [61]:=t2;rw[aW (q:=mv q _) hf,Jv,if_pos (by decide),if_pos (.inr hk4),gW (q:=mv q _) hf (by rw[Jv];decide)]at a2;obtain⟨⟨z1,z2⟩,b1,b3⟩:=Option.bind_eq_some_iff.1 a2;rw[if_neg (by omega)]at b3;simp only[Option.some.injEq,Prod.mk.injEq]at b3;obtain⟨rfl,rfl⟩:=b3;have R9:bR T (mv (mv (mv q (uX a).length) 1) (uX b).length).at_=W [59]:=t4;obtain⟨rfl,d2⟩:=yB (qI b (List.mem_cons_of_mem _ List.mem_cons_self)) b1 hf h0 h5 (hd.imp (λh=>aI.hJ h) λh=>by simp only[mv];omega) t3 (jt R9 (by decide));rw[ze R9 hf];refine⟨by simp only[mv,List.length_cons,List.length_append,List.length_nil,RQ.mk.injEq,and_true];omega,?_⟩;rw[rW,he,c4,NF (by omega) (by omega),Rm (by omega),Bu];simp only[rV,b2,d2]
  rfl
  rw[if_neg c4]at hh tK ⊢;rw[if_neg c4]at hd;by_cases c5:s.k=5;rw[if_pos c5]at hh tK ⊢;rw[if_pos c5]at hd;obtain⟨e,Bu⟩:=e2 (by omega);rw[Bu]at hh tK qI hd ⊢;simp only[x0,d0]at hh tK hd ⊢;obtain⟨t,hh⟩:=hh;change bR T _=_ at t;rw[cT]at hh;obtain⟨t1,t2⟩:=hh;have fD:th T (q.at_+1+(uX e).length) (W [123]::(uB s.bd++[W [125]])):=by
   rw[iY,cT]at t2 ⊢;exact⟨t2.1,t2.2.1,t2.2.2.1,trivial⟩
  rw[t,if_neg (by decide),if_neg (by decide),if_pos (by decide)]at h;obtain⟨⟨y1,y2⟩,a1,a2⟩:=Option.bind_eq_some_iff.1 h;obtain⟨⟨z1,z2⟩,b1,b2⟩:=Option.bind_eq_some_iff.1 a2;dsimp only at b1 b2;have gz:r.fe=0->z2.fe=0:=λhr=>by
   split at b2;obtain⟨⟨w1,w2⟩,c1,c2⟩:=Option.bind_eq_some_iff.1 b2;simp only[Option.some.injEq,Prod.mk.injEq]at c2;obtain⟨_,rfl⟩:=c2;have:=(kB c1).1.hJ hr;exact this;simp only[Option.some.injEq,Prod.mk.injEq]at b2;obtain⟨_,rfl⟩:=b2;exact hr
  obtain⟨rfl,d2⟩:=yB (qI e List.mem_cons_self) a1 hf h0 h5 (hd.imp (λh=>(kB b1).1.hJ (gz h)) λh=>by simp only[aA];omega) t1 (jt (x:=W [123]) t2.1 (by decide));obtain⟨rfl,d4⟩:=fM b1 pb hwb hf h0 (hd.imp gz λh=>by simp only[mv,aA];omega) fD;have t6:th T (q.at_+1+(uX e).length+1+(uB s.bd).length+1) (if s.el.isEmpty=true then [] else W yA::W [123]::(uB s.el++[W [125]])):=by
   rw[iY,cT]at t2;exact t2.2.2.2
  cases hE:s.el with
  |nil=>
   rw[hE]at tK t6;simp only[List.isEmpty_nil,if_true]at tK t6;have iz:fP T (mv (mv (aA q) (uX e).length) ((uB s.bd).length+2)) [101,108,115,101]=false:=by
    rw[aW (q:=mv (mv (aA q) (uX e).length) ((uB s.bd).length+2)) hf];have:(mv (mv (aA q) (uX e).length) ((uB s.bd).length+2)).at_=q.at_+(W wIf::(uX e++W [123]::(uB s.bd++W [125]::[]))).length:=by
     simp only[mv,aA,List.length_cons,List.length_append,List.length_nil];omega
    rw[this];exact tK
   rw[iz]at b2;simp only[Bool.false_eq_true,if_false]at b2;cases b2;refine⟨by simp only[mv,aA,List.isEmpty_nil,if_true,List.length_cons,List.length_append,List.length_nil,RQ.mk.injEq,and_true];omega,?_⟩;rw[rW,he,c5,Bu,hE,d4];simp only[rV,d2]
   rfl
  |cons s2 l2=>
   rw[hE]at t6;simp only[List.isEmpty_cons,Bool.false_eq_true,if_false]at t6;rw[<-hE]at t6;obtain⟨t7,t8⟩:=t6;change bR T _=_ at t7;have t7':bR T (mv (mv (aA q) (uX e).length) ((uB s.bd).length+2)).at_=W yA:=by
    rw[<-t7];congr 1;simp only[mv,aA];omega
   rw[aW (q:=mv (mv (aA q) _) _) hf,t7',if_pos (by decide)]at b2;obtain⟨⟨w1,w2⟩,c1,c2⟩:=Option.bind_eq_some_iff.1 b2;simp only[Option.some.injEq,Prod.mk.injEq]at c2;obtain⟨rfl,rfl⟩:=c2;have hat:(aA (mv (mv (aA q) (uX e).length) ((uB s.bd).length+2))).at_=q.at_+1+(uX e).length+1+(uB s.bd).length+1+1:=(by simp only[mv,aA];omega);obtain⟨rfl,d6⟩:=fM c1 pe hwe hf h0 (hd.imp id λh=>by simp only[mv,aA];omega) (by rw[hat];exact t8);refine⟨?_,?_⟩;have:(s2::l2).isEmpty=false:=rfl;rw[this,<-hE];simp only[mv,aA,Bool.false_eq_true,if_false,List.length_cons,List.length_append,List.length_nil,RQ.mk.injEq,and_true];omega;rw[rW,he,c5,Bu,d4,d6];simp only[rV,d2]
   rfl
  rw[if_neg c5]at hh tK ⊢;rw[if_neg c5]at hd;by_cases c6:s.k=6;rw[if_pos c6]at hh tK ⊢;rw[if_pos c6]at hd;obtain⟨e,Bu⟩:=e2 (by omega);rw[Bu]at hh qI hd ⊢;simp only[x0,d0]at hh hd ⊢;obtain⟨t,hh⟩:=hh;change bR T _=_ at t;rw[cT]at hh;obtain⟨t1,t2⟩:=hh;rw[t,if_neg (by decide),if_neg (by decide),if_neg (by decide),if_pos (by decide)]at h;obtain⟨⟨y1,y2⟩,a1,a2⟩:=Option.bind_eq_some_iff.1 h;obtain⟨⟨z1,z2⟩,b1,b2⟩:=Option.bind_eq_some_iff.1 a2;simp only[Option.some.injEq,Prod.mk.injEq]at b2;obtain⟨rfl,rfl⟩:=b2;obtain⟨rfl,d2⟩:=yB (qI e List.mem_cons_self) a1 hf h0 h5 (hd.imp (λh=>(kB b1).1.hJ h) λh=>by simp only[aA];omega) t1 (jt (x:=W [123]) t2.1 (by decide));obtain⟨rfl,d4⟩:=fM b1 pb hwb hf h0 (hd.imp id λh=>by simp only[mv,aA];omega) t2;refine⟨by simp only[mv,aA,List.length_cons,List.length_append,List.length_nil,RQ.mk.injEq,and_true];omega,?_⟩;rw[rW,he,c6,Bu,d4,Rm (by omega)];simp only[rV,d2]
  rfl
  rw[if_neg c6]at hh tK ⊢;rw[if_neg c6,if_neg c1]at hd;by_cases c7:s.k=7;rw[if_pos c7]at hh tK ⊢;obtain⟨t,hh⟩:=hh;change bR T _=_ at t;rw[t,if_neg (by decide),if_neg (by decide),if_neg (by decide),if_neg (by decide),if_pos (by decide)]at h;rcases e7 c7 with Bu|⟨e,Bu⟩;rw[Bu]at hh ⊢;simp only[x0,List.nil_append]at hh ⊢;have t2:bR T (aA q).at_=W [59]:=hh.1;rw[aW (q:=aA q) hf,t2,if_pos (by decide),gW (q:=aA q) hf (by rw[t2];decide)]at h;cases h;refine⟨rfl,?_⟩;rw[rW,he,c7,Bu,NF (by omega) (by omega),Rm (by omega)]
  rfl
  rw[Bu]at hh qI hd ⊢;simp only[x0,d0]at hh hd ⊢;rw[cT]at hh;obtain⟨t1,t2,_⟩:=hh;obtain⟨y,l0,hy,hb⟩:=VX e (qI e List.mem_cons_self);have ty:bR T (aA q).at_=y:=by rw[hy]at t1;exact t1.1
  rw[aW (q:=aA q) hf,ty,Hz hb (by decide)]at h;simp only[Bool.false_eq_true,if_false]at h;obtain⟨⟨y1,y2⟩,a1,a2⟩:=Option.bind_eq_some_iff.1 h;simp only[Option.some.injEq,Prod.mk.injEq]at a2;obtain⟨rfl,rfl⟩:=a2;have Jv:bR T (mv (aA q) (uX e).length).at_=W [59]:=t2;obtain⟨rfl,d2⟩:=yB (qI e List.mem_cons_self) a1 hf h0 h5 (hd.imp (λh=>aI.hJ h) λh=>by simp only[aA];omega) t1 (jt Jv (by decide));rw[ze Jv hf];refine⟨by simp only[mv,aA,List.length_cons,List.length_append,List.length_nil,RQ.mk.injEq,and_true];omega,?_⟩;rw[rW,he,c7,Bu,NF (by omega) (by omega),Rm (by omega)];simp only[rV,d2]
  rfl
  rw[if_neg c7]at hh tK ⊢;by_cases c8:s.k=8;rw[if_pos c8]at hh tK ⊢;obtain⟨t,hh⟩:=hh;change bR T _=_ at t;rw[t,if_neg (by decide),if_neg (by decide),if_neg (by decide),if_neg (by decide),if_neg (by decide),if_pos (by decide)]at h;obtain⟨e,Bu⟩:=e2 (by omega);rw[Bu]at hh qI hd ⊢;simp only[x0,d0]at hh hd ⊢;rw[cT]at hh;obtain⟨t1,t2,_⟩:=hh;obtain⟨⟨y1,y2⟩,a1,a2⟩:=Option.bind_eq_some_iff.1 h;simp only[Option.some.injEq,Prod.mk.injEq]at a2;obtain⟨rfl,rfl⟩:=a2;have Jv:bR T (mv (aA q) (uX e).length).at_=W [59]:=t2;obtain⟨rfl,d2⟩:=yB (qI e List.mem_cons_self) a1 hf h0 h5 (hd.imp (λh=>aI.hJ h) λh=>by simp only[aA];omega) t1 (jt Jv (by decide));rw[ze Jv hf];refine⟨by simp only[mv,aA,List.length_cons,List.length_append,List.length_nil,RQ.mk.injEq,and_true];omega,?_⟩;rw[rW,he,c8,Bu,NF (by omega) (by omega),Rm (by omega)];simp only[rV,d2]
  rfl
  rw[if_neg c8]at hh tK ⊢;have c9:s.k=9:=by omega
  obtain⟨e,Bu,hek⟩:=e9 c9;rw[Bu]at hh qI hd ⊢;simp only[x0,d0]at hh hd ⊢;rw[cT]at hh;obtain⟨t1,t2,_⟩:=hh;obtain⟨y,l0,hy,hb⟩:=VX e (qI e List.mem_cons_self);have t:bR T q.at_=y:=by rw[hy]at t1;exact t1.1
  change bR T _=_ at t2;have iz:∀w,(ke (W Ci) w||ke (W wV) w||ke (W Cj) w||ke (W tR) w||ke (W Fa) w||ke (W Ck) w||ke (W [45]) w||ke (W [33]) w||ke (W [40]) w)=false->ke y w=false:=λw hw=>Hz hb hw;rw[t,iz _ (by decide),iz _ (by decide),iz _ (by decide),iz _ (by decide),iz _ (by decide),iz _ (by decide)]at h;simp only[Bool.false_eq_true,if_false]at h;unfold mW at h;obtain⟨⟨y1,y2⟩,a1,a2⟩:=Option.bind_eq_some_iff.1 h;dsimp only at a2;have hg:r.fe=0->y2.fe=0:=λhr=>by
   split at a2;obtain⟨⟨z1,z2⟩,b1,b2⟩:=Option.bind_eq_some_iff.1 a2;simp only[Option.some.injEq,Prod.mk.injEq]at b2;obtain⟨_,rfl⟩:=b2;have h1:=(aI.trans ((dK b1).trans aI)).hJ hr;split at h1;exact h1;exact(eG.hJ h1);simp only[Option.some.injEq,Prod.mk.injEq]at a2;obtain⟨_,rfl⟩:=a2;have h1:=aI.hJ hr;split at h1;exact eG.hJ h1;exact h1
  have Jv:bR T (mv q (uX e).length).at_=W [59]:=t2;obtain⟨rfl,d2⟩:=yB (qI e List.mem_cons_self) a1 hf h0 h5 (hd.imp hg id) t1 (jt Jv (by decide));have hk7:y1.k=7:=by rw[ael d2];exact hek
  rw[aW (q:=mv q _) hf,aW (q:=mv q _) hf,Jv,if_neg (by decide),if_neg (by rintro⟨_,c⟩;exact c hk7),gW (q:=mv q _) hf (by rw[Jv];decide)]at a2;cases a2;refine⟨by simp only[mv,List.length_cons,List.length_append,List.length_nil,RQ.mk.injEq,and_true];omega,?_⟩;rw[rW,he,c9,Bu,NF (by omega) (by omega),Rm (by omega)];simp only[rV,d2]
  rfl
end wU
namespace wU
open Ax Go V7 lf mG
def Az(p:PD):PD:=⟨p.name,p.on,p.od,0⟩
def pT(p:PD):List TS:=Nm p.name::W [58]::uT p.on p.od
def fT:List PD->List TS
 |[]=>[]
 |p::l=>pT p++W [59]::fT l
def RD:List PD->List TS
 |[]=>[]
 |p::l=>W [44]::(pT p++RD l)
def rX(l:List PD):List TS:=match l with | []=>[]|p::l=>pT p++RD l
def CJ(r:Rc):List TS:=W No::Nm r.name::W [123]::(fT r.bH++[W [125]])
def wZ(p:PD):List TS:=W Ew::(pT p++[W [59]])
def CL(f:Fc):List TS:=W zV::Nm f.name::W [40]::(rX f.params++W [41]::((if f.ct then W [58]::uT f.on f.od else [])++W [123]::(uB f.body++[W [125]])))
def ju{α:Type}(g:α->List TS):List α->List TS
 |[]=>[]
 |x::l=>g x++ju g l
def uP(p:Pg):List TS:=ju CJ p.bz++(ju wZ p.aH++ju CL p.funcs)
def JV(r:Rc):Rc:=⟨r.name,r.bH.map Az,0⟩
def Dg(f:Fc):Fc:=⟨f.name,f.params.map Az,f.ct,f.on,f.od,Cm f.body,0⟩
def Jy(p:Pg):Pg:=⟨p.bz.map JV,p.aH.map Az,p.funcs.map Dg⟩
def Jz(p:PD):Prop:=0<=p.od/\p.od<=3
structure WfF (f:Fc):Prop where
 len:f.params.length<=6
 od:∀p∈f.params,Jz p
 res:0<=f.od/\f.od<=3
 no:f.ct=false->f.on=[]/\f.od=0
 body:PA f.body
structure WfP (p:Pg):Prop where
 rl:p.bz.length<=12
 gl:p.aH.length<=8
 fl:p.funcs.length<=16
 r:∀r∈p.bz,r.bH.length<=8/\∀p∈r.bH,Jz p
 g:∀q∈p.aH,Jz q
 f:∀f∈p.funcs,WfF f
theorem JA{T:List Tk}{q:RQ}{p:PD}{l:List TS}(hf:q.fe=0)(ho:Jz p)(hh:th T q.at_ (pT p++l)):cU T q=(⟨p.name,p.on,p.od,(dQ T q).a⟩,mv q (pT p).length)/\th T (q.at_+(pT p).length) l:=by
 have h:=Bt (T:=T) (q:=q) (nm:=p.name) (on:=p.on) (od:=p.od) (l:=l) hf ho.1 ho.2 hh;have e:(pT p).length=(uT p.on p.od).length+2:=rfl;rw[e];exact h
theorem qR{T:List Tk}:∀(l acc:List PD)(f:Nat)(q:RQ)(l':List PD)(r:RQ),gZ T f acc q=some (l',r)->q.fe=0->(∀p∈l,Jz p)->acc.length+l.length<=8->th T q.at_ (fT l++[W [125]])->
  r=mv q (fT l).length/\l'.map Az=(acc++l).map Az
 |l,acc,0,q,l',r,h,_,_,_,_=>by simp[gZ]at h|[],acc,f+1,q,l',r,h,hf,_,_,hh=>by
  unfold gZ at h;have t1:bR T q.at_=W [125]:=hh.1;rw[if_neg (by rintro⟨_,b⟩;rw[aW hf,t1]at b;revert b;decide)]at h;cases h;exact⟨rfl,by simp⟩
 |p::l,acc,f+1,q,l',r,h,hf,ho,hn,hh=>by
  unfold gZ at h;simp only[fT,List.append_assoc,List.cons_append]at hh;have t1:bR T q.at_=Nm p.name:=hh.1;simp only[List.length_cons]at hn;rw[if_pos ⟨hf,by rw[aW hf,t1];exact nX _ _⟩,if_neg (by rintro⟨_,b⟩;omega)]at h;obtain⟨e1,HB⟩:=JA hf (ho p List.mem_cons_self) hh;rw[e1]at h;simp only at h;rw[iY]at HB;have t2:bR T (mv q (pT p).length).at_=W [59]:=HB.1;rw[gW (q:=mv q _) hf (by rw[t2];decide)]at h;obtain⟨c1,c2⟩:=qR l _ f (mv (mv q (pT p).length) 1) l' r h hf (λx hx=>ho x (List.mem_cons_of_mem _ hx)) (by simp;omega) HB.2;refine⟨?_,?_⟩;rw[c1,Aw,Aw];simp only[fT,List.length_append,List.length_cons];exact abf (by omega);rw[c2];simp[Az]
theorem Bv{T:List Tk}:∀(l acc:List PD)(f:Nat)(q:RQ)(l':List PD)(r:RQ),gK T f acc q=some (l',r)->q.fe=0->(∀p∈l,Jz p)->acc.length+l.length<=6->th T q.at_ (rX l++[W [41]])->
  r=mv q (rX l).length/\l'.map Az=(acc++l).map Az
 |l,acc,0,q,l',r,h,_,_,_,_=>by simp[gK]at h|[],acc,f+1,q,l',r,h,hf,_,_,hh=>by
  unfold gK at h;have t1:bR T q.at_=W [41]:=hh.1;rw[if_neg (by rintro⟨_,b⟩;rw[aW hf,t1]at b;revert b;decide)]at h;cases h;exact⟨rfl,by simp⟩
 |[p],acc,f+1,q,l',r,h,hf,ho,hn,hh=>by
  unfold gK at h;simp only[rX,RD,List.append_nil]at hh ⊢;have t1:bR T q.at_=Nm p.name:=hh.1;simp only[List.length_cons,List.length_nil]at hn;rw[if_pos ⟨hf,by rw[aW hf,t1];exact nX _ _⟩,if_neg (by rintro⟨_,b⟩;omega)]at h;obtain⟨e1,HB⟩:=JA hf (ho p List.mem_cons_self) hh;rw[e1]at h;simp only at h;have t2:bR T (mv q (pT p).length).at_=W [41]:=HB.1;have ec:vm T (mv q (pT p).length)=mv q (pT p).length:=by
   unfold vm;rw[aW (q:=mv q _) hf,t2,if_pos (by decide)]
  rw[ec]at h;obtain⟨c1,c2⟩:=Bv [] _ f (mv q (pT p).length) l' r h hf (λx hx=>by cases hx) (by simp;omega) HB;exact⟨by rw[c1];rfl,by rw[c2];simp[Az]⟩
 |p::p2::l,acc,f+1,q,l',r,h,hf,ho,hn,hh=>by
  unfold gK at h;simp only[rX,RD,List.append_assoc,List.cons_append]at hh ⊢;have t1:bR T q.at_=Nm p.name:=hh.1;simp only[List.length_cons]at hn;rw[if_pos ⟨hf,by rw[aW hf,t1];exact nX _ _⟩,if_neg (by rintro⟨_,b⟩;omega)]at h;obtain⟨e1,HB⟩:=JA hf (ho p List.mem_cons_self) hh;rw[e1]at h;simp only at h;rw[iY]at HB;have t2:bR T (mv q (pT p).length).at_=W [44]:=HB.1;have t3:bR T (mv (mv q (pT p).length) 1).at_=Nm p2.name:=HB.2.1;have ec:vm T (mv q (pT p).length)=mv (mv q (pT p).length) 1:=by
   unfold vm;rw[aW (q:=mv q _) hf,t2,if_neg (by decide),gW (q:=mv q _) hf (by rw[t2];decide),aW (q:=mv (mv q _) 1) hf,t3,nX];simp
  rw[ec]at h;obtain⟨c1,c2⟩:=Bv (p2::l) _ f (mv (mv q (pT p).length) 1) l' r h hf (λx hx=>ho x (List.mem_cons_of_mem _ hx)) (by simp;omega) (by
   simp only[rX,List.append_assoc];exact HB.2)
  refine⟨?_,?_⟩;rw[c1,Aw,Aw];simp only[rX,List.length_append,List.length_cons];exact abf (by omega);rw[c2];simp[Az]
theorem Bj{T:List Tk}{f:Nat}{q r:RQ}{x:Rc}{c:Rc}(h:lY T f q=some (x,r))(hf:q.fe=0)(hl:c.bH.length<=8)(ho:∀p∈c.bH,Jz p)(hh:th T q.at_ (Nm c.name::W [123]::(fT c.bH++[W [125]]))) :
  r=mv q ((fT c.bH).length+3)/\JV x=JV c:=by
 obtain⟨t1,t2,t3⟩:=hh;change bR T _=_ at t1;change bR T _=_ at t2;unfold lY at h;rw[pP hf t1]at h;simp only at h;rw[gW (q:=aA q) hf (by rw[show bR T (aA q).at_=_ from t2];decide)]at h;obtain⟨⟨y1,y2⟩,a1,a2⟩:=Option.bind_eq_some_iff.1 h;cases a2;obtain⟨rfl,b2⟩:=qR c.bH [] f (mv (aA q) 1) y1 y2 a1 hf ho (by simpa using hl) t3;rw[cT]at t3;have t4:bR T (mv (mv (aA q) 1) (fT c.bH).length).at_=W [125]:=t3.2.1;rw[ze t4 hf];refine⟨by simp only[mv,aA,RQ.mk.injEq,and_true];omega,?_⟩;unfold JV;rw[b2]
 rfl
theorem I6{T:List Tk}{f:Nat}{q r:RQ}{x c:Fc}(h:rJ T f q=some (x,r))(hf:q.fe=0)(h0:q.op=0)(hw:WfF c)(hd:r.fe=0\/dB c.body+1<=50)
  (hh:th T q.at_ (Nm c.name::W [40]::(rX c.params++W [41]::((if c.ct then W [58]::uT c.on c.od else [])++W [123]::(uB c.body++[W [125]]))))) :
  r=mv q ((rX c.params).length+(if c.ct then W [58]::uT c.on c.od else []).length+(uB c.body).length+5)/\Dg x=Dg c:=by
 obtain⟨t1,t2,t3⟩:=hh;change bR T _=_ at t1;change bR T _=_ at t2;unfold rJ at h;rw[pP hf t1]at h;simp only at h;rw[gW (q:=aA q) hf (by rw[show bR T (aA q).at_=_ from t2];decide)]at h;obtain⟨⟨y1,y2⟩,a1,a2⟩:=Option.bind_eq_some_iff.1 h;have Tq:th T (q.at_+1+1) (rX c.params++[W [41]]):=by
  rw[cT,iY]at t3 ⊢;exact⟨t3.1,t3.2.1,trivial⟩
 obtain⟨rfl,b2⟩:=Bv c.params [] f (mv (aA q) 1) y1 y2 a1 hf hw.od (by simpa using hw.len) Tq;rw[cT,iY]at t3;obtain⟨_,t4,t5⟩:=t3;have R9:bR T (mv (mv (aA q) 1) (rX c.params).length).at_=W [41]:=t4;dsimp only at a2;rw[ze R9 hf]at a2;have pa:∀s∈c.body,PS s:=λs hs=>EP s ((vC _).1 hw.body s hs);cases hc:c.ct with
 |true=>
  rw[hc]at t5;simp only[if_true,List.cons_append]at t5;obtain⟨t6,t7⟩:=t5;change bR T _=_ at t6;rw[cT]at t7;obtain⟨t8,t9⟩:=t7;rw[aW (q:=mv (mv (mv (aA q) 1) (rX c.params).length) 1) hf,show bR T (mv (mv (mv (aA q) 1) (rX c.params).length) 1).at_=_ from t6,if_pos (by decide)]at a2;rw[Jr (T:=T) (q:=aA (mv (mv (mv (aA q) 1) (rX c.params).length) 1)) hf hw.res.1 hw.res.2 t8]at a2;obtain⟨⟨z1,z2⟩,c1,c2⟩:=Option.bind_eq_some_iff.1 a2;cases c2;obtain⟨rfl,d2⟩:=fM c1 pa hw.body hf (by simp only[mv,aA,h0];omega) (hd.imp id λh=>by simp only[mv,aA,h0];omega) t9;refine⟨?_,?_⟩;simp only[mv,aA,if_true,List.length_cons,RQ.mk.injEq,and_true];omega;unfold Dg;rw[b2,d2,hc]
  rfl
 |false=>
  rw[hc]at t5;simp only[Bool.false_eq_true,if_false,List.nil_append]at t5;have t6:bR T (mv (mv (mv (aA q) 1) (rX c.params).length) 1).at_=W [123]:=t5.1;rw[aW (q:=mv (mv (mv (aA q) 1) (rX c.params).length) 1) hf,t6,if_neg (by decide)]at a2;obtain⟨⟨z1,z2⟩,c1,c2⟩:=Option.bind_eq_some_iff.1 a2;cases c2;obtain⟨rfl,d2⟩:=fM c1 pa hw.body hf (by simp only[mv,aA,h0];omega) (hd.imp id λh=>by simp only[mv,aA,h0];omega) t5;refine⟨?_,?_⟩;simp only[mv,aA,Bool.false_eq_true,if_false,List.length_nil,RQ.mk.injEq,and_true];omega;unfold Dg;rw[b2,d2,hc,(hw.no hc).1,(hw.no hc).2]
  rfl
theorem qT{T:List Tk}:∀(f:Nat)(p:Pg)(q:RQ)(s:Pg)(r:RQ),gu T f p q=some (s,r)->eK T q r
 |0,_,_,_,_,h=>by simp[gu]at h|f+1,p,q,s,r,h=>by
  unfold gu at h;split at h;rename_i c;have hq:q.at_<T.length:=tN c.2;split at h;exact eG.trans (qT f _ _ _ _ h);split at h;obtain⟨⟨x1,x2⟩,h1,h2⟩:=Option.bind_eq_some_iff.1 h;exact((bY c.1 hq).trans (wL h1).1).trans (qT f _ _ _ _ h2);split at h;exact((bY c.1 hq).trans (iy.trans aI)).trans (qT f _ _ _ _ h);split at h;obtain⟨⟨x1,x2⟩,h1,h2⟩:=Option.bind_eq_some_iff.1 h;exact((bY c.1 hq).trans (Be h1).1).trans (qT f _ _ _ _ h2);exact eG.trans (qT f _ _ _ _ h);cases h;exact eK.refl _ _
theorem aem(s:List UInt8):(W s).1≠0:=G6 s
theorem PI{T:List Tk}:∀(l acc:List Rc)(gs:List PD)(fs:List Fc)(f:Nat)(q:RQ)(p:Pg)(r:RQ)(rest:List TS),gu T f ⟨acc,gs,fs⟩ q=some (p,r)->q.fe=0->acc.length+l.length<=12->
  (∀r∈l,r.bH.length<=8/\∀p∈r.bH,Jz p)->th T q.at_ (ju CJ l++rest)->∃f2 AA,gu T f2 ⟨AA,gs,fs⟩ (mv q (ju CJ l).length)=some (p,r)/\AA.map JV=(acc++l).map JV
 |[],acc,gs,fs,f,q,p,r,rest,h,hf,_,_,hh=>⟨f,acc,h,by simp⟩
 |c::l,acc,gs,fs,0,q,p,r,rest,h,_,_,_,_=>by simp[gu]at h|c::l,acc,gs,fs,f+1,q,p,r,rest,h,hf,hn,hr,hh=>by
  unfold gu at h;simp only[ju,CJ,List.append_assoc,List.cons_append]at hh;obtain⟨t,hh⟩:=hh;change bR T _=_ at t;simp only[List.length_cons]at hn;rw[aW hf,aW hf,aW hf,HA,t,if_pos ⟨hf,aem _⟩,if_neg (by
   rintro (⟨_,b⟩|⟨b,_⟩|⟨b,_⟩);simp only at b;omega;revert b;decide;revert b;decide),if_pos (by decide)]at h
  obtain⟨⟨x1,x2⟩,h1,h2⟩:=Option.bind_eq_some_iff.1 h;have W4:th T (q.at_+1) (Nm c.name::W [123]::(fT c.bH++[W [125]])):=by
   obtain⟨u1,u2,u3⟩:=hh;rw[cT]at u3;refine⟨u1,u2,?_⟩;rw[cT];exact⟨u3.1,u3.2.1,trivial⟩
  obtain⟨hl,ho⟩:=hr c List.mem_cons_self;obtain⟨rfl,b2⟩:=Bj h1 hf hl ho W4;have HB:th T ((aA q).at_+((fT c.bH).length+3)) (ju CJ l++rest):=by
   obtain⟨u1,u2,u3⟩:=hh;rw[cT]at u3;have:=u3.2.2;simp only[List.nil_append]at this;rw[show (aA q).at_+((fT c.bH).length+3)=q.at_+1+1+1+(fT c.bH).length+1 by simp only[aA];omega];exact this
  obtain⟨f2,AA,c1,c2⟩:=PI l (acc++[x1]) gs fs f (mv (aA q) ((fT c.bH).length+3)) p r rest h2 hf (by simp;omega) (λx hx=>hr x (List.mem_cons_of_mem _ hx)) HB;refine⟨f2,AA,?_,?_⟩;have:mv q (ju CJ (c::l)).length=mv (mv (aA q) ((fT c.bH).length+3)) (ju CJ l).length:=by
   simp only[mv,aA,ju,CJ,List.length_append,List.length_cons,List.length_nil,RQ.mk.injEq,and_true];omega
  rw[this];exact c1;rw[c2];simp[b2]
theorem LW{T:List Tk}:∀(l acc:List PD)(rs:List Rc)(fs:List Fc)(f:Nat)(q:RQ)(p:Pg)(r:RQ)(rest:List TS),gu T f ⟨rs,acc,fs⟩ q=some (p,r)->q.fe=0->acc.length+l.length<=8->
  (∀r∈l,Jz r)->th T q.at_ (ju wZ l++rest)->∃f2 AA,gu T f2 ⟨rs,AA,fs⟩ (mv q (ju wZ l).length)=some (p,r)/\AA.map Az=(acc++l).map Az
 |[],acc,gs,fs,f,q,p,r,rest,h,hf,_,_,hh=>⟨f,acc,h,by simp⟩
 |c::l,acc,gs,fs,0,q,p,r,rest,h,_,_,_,_=>by simp[gu]at h|c::l,acc,rs,fs,f+1,q,p,r,rest,h,hf,hn,hr,hh=>by
  unfold gu at h;simp only[ju,wZ,List.append_assoc,List.cons_append,List.nil_append]at hh;obtain⟨t,hh⟩:=hh;change bR T _=_ at t;simp only[List.length_cons]at hn;rw[aW hf,aW hf,aW hf,HA,t,if_pos ⟨hf,aem _⟩,if_neg (by
   rintro (⟨b,_⟩|⟨_,b⟩|⟨b,_⟩);revert b;decide;simp only at b;omega;revert b;decide),if_neg (by decide),if_pos (by decide)]at h
  obtain⟨e1,HB⟩:=JA (q:=aA q) hf (hr c List.mem_cons_self) hh;rw[iY]at HB;have t2:bR T (mv (aA q) (pT c).length).at_=W [59]:=HB.1;rw[e1]at h;simp only at h;rw[gW (q:=mv (aA q) _) hf (by rw[t2];decide)]at h;obtain⟨f2,AA,c1,c2⟩:=LW l _ rs fs f (mv (mv (aA q) (pT c).length) 1) p r rest h hf (by simp;omega) (λx hx=>hr x (List.mem_cons_of_mem _ hx)) HB.2;refine⟨f2,AA,?_,?_⟩;have:mv q (ju wZ (c::l)).length=mv (mv (mv (aA q) (pT c).length) 1) (ju wZ l).length:=by
   simp only[mv,aA,ju,wZ,List.length_append,List.length_cons,List.length_nil,RQ.mk.injEq,and_true];omega
  rw[this];exact c1;rw[c2];simp[Az]
theorem PJ{T:List Tk}:∀(l acc:List Fc)(rs:List Rc)(gs:List PD)(f:Nat)(q:RQ)(p:Pg)(r:RQ)(rest:List TS),gu T f ⟨rs,gs,acc⟩ q=some (p,r)->q.fe=0->q.op=0->acc.length+l.length<=16->
  (∀r∈l,WfF r)->(r.fe=0\/∀c∈l,dB c.body+1<=50)->th T q.at_ (ju CL l++rest)->∃f2 AA,gu T f2 ⟨rs,gs,AA⟩ (mv q (ju CL l).length)=some (p,r)/\AA.map Dg=(acc++l).map Dg
 |[],acc,gs,fs,f,q,p,r,rest,h,hf,_,_,_,_,hh=>⟨f,acc,h,by simp⟩
 |c::l,acc,gs,fs,0,q,p,r,rest,h,_,_,_,_,_,_=>by simp[gu]at h|c::l,acc,rs,gs,f+1,q,p,r,rest,h,hf,h0,hn,hr,hd,hh=>by
  unfold gu at h;simp only[ju,CL,List.append_assoc,List.cons_append]at hh;obtain⟨t,hh⟩:=hh;change bR T _=_ at t;simp only[List.length_cons]at hn;rw[aW hf,aW hf,aW hf,HA,t,if_pos ⟨hf,aem _⟩,if_neg (by
   rintro (⟨b,_⟩|⟨b,_⟩|⟨_,b⟩);revert b;decide;revert b;decide;simp only at b;omega),if_neg (by decide),if_neg (by decide),if_pos (by decide)]at h
  obtain⟨⟨x1,x2⟩,h1,h2⟩:=Option.bind_eq_some_iff.1 h;have XH:∀(a b:List TS) i,th T i (a++b)->th T i a:=λa b i h=>(cT.1 h).1;have Mo:th T (q.at_+1) ((Nm c.name::W [40]::(rX c.params++W [41]::((if c.ct then W [58]::uT c.on c.od else [])++W [123]::(uB c.body++[W [125]]))))++(ju CL l++rest)):=by
   simp only[List.append_assoc,List.cons_append];exact hh
  obtain⟨rfl,b2⟩:=I6 h1 hf h0 (hr c List.mem_cons_self) (hd.imp (λhr=>(qT _ _ _ _ _ h2).hJ hr) λh=>h c List.mem_cons_self) (XH _ _ _ Mo);rw[cT]at Mo;have Of:(Nm c.name::W [40]::(rX c.params++W [41]::((if c.ct then W [58]::uT c.on c.od else [])++W [123]::(uB c.body++[W [125]])))).length=(rX c.params).length+(if c.ct then W [58]::uT c.on c.od else []).length+(uB c.body).length+5:=by
   simp only[List.length_cons,List.length_append,List.length_nil];omega
  rw[Of]at Mo;obtain⟨f2,AA,c1,c2⟩:=PJ l (acc++[x1]) rs gs f (mv (aA q) ((rX c.params).length+(if c.ct then W [58]::uT c.on c.od else []).length+(uB c.body).length+5)) p r rest h2 hf h0 (by simp;omega)
   (λx hx=>hr x (List.mem_cons_of_mem _ hx)) (hd.imp id λh x hx=>h x (List.mem_cons_of_mem _ hx)) Mo.2
  refine⟨f2,AA,?_,?_⟩;have:mv q (ju CL (c::l)).length=mv (mv (aA q) ((rX c.params).length+(if c.ct then W [58]::uT c.on c.od else []).length+(uB c.body).length+5)) (ju CL l).length:=by
   simp only[mv,aA,ju,CL,List.length_append,List.length_cons,List.length_nil,RQ.mk.injEq,and_true];omega
  rw[this];exact c1;rw[c2];simp[b2]
theorem V4{T:List Tk}{F:Nat}{x:Pg×Int×Int}{p:Pg}(h:oN T F=some x)(hw:WfP p)(hd:x.2.1=0\/∀c∈p.funcs,dB c.body+1<=50)(hh:th T 0 (uP p++[(0,[],0)])):x.2=(0,0)/\Jy x.1=Jy p:=by
 unfold oN at h;obtain⟨⟨y1,y2⟩,h1,h2⟩:=Option.bind_eq_some_iff.1 h;dsimp only at h2;have hd2:y2.fe=0\/∀c∈p.funcs,dB c.body+1<=50:=hd.imp (λhx=>by
  split at h2
  assumption
  rename_i iR;cases h2;exact absurd hx iR) id
 unfold uP at hh;simp only[List.append_assoc]at hh;obtain⟨f1,rs,a1,a2⟩:=PI p.bz [] [] [] F ⟨0,0,0,0⟩ y1 y2 _ h1 rfl (by simpa using hw.rl) hw.r hh;rw[cT]at hh;obtain⟨f2,gs,b1,b2⟩:=LW p.aH [] rs [] f1 _ y1 y2 _ a1 rfl (by simpa using hw.gl) hw.g hh.2;have HB:=(cT.1 hh.2).2;obtain⟨f3,fs,c1,c2⟩:=PJ p.funcs [] rs gs f2 _ y1 y2 _ b1 rfl rfl (by simpa using hw.fl) hw.f hd2 HB;have hh3:=(cT.1 HB).2.1;cases f3 with
 |zero=>simp[gu]at c1|succ f3=>
  unfold gu at c1;rw[if_neg (by
   rintro⟨_,k⟩;apply k;rw[HA];have:bR T (mv (mv (mv (⟨0,0,0,0⟩:RQ) (ju CJ p.bz).length) (ju wZ p.aH).length) (ju CL p.funcs).length).at_=(0,[],0):=hh3;rw[this])]at c1
  cases c1;change some (if (0:Int)=0 then _ else _)=_ at h2;rw[if_pos rfl]at h2;cases h2;refine⟨rfl,?_⟩;unfold Jy;simp only[List.nil_append]at a2 b2 c2;rw[a2,b2,c2]
end wU
namespace wU
open Ax Go V7 lf mG
mutual
def ep:E->E
 |.mk k n nm on od ay _ ty ref=>.mk k n nm on od (lT ay) 0 ty ref
def lT:List E->List E
 |[]=>[]
 |e::l=>ep e::lT l
end
theorem HC(e:E):ep e=.mk e.k e.n e.nm e.on e.od (lT e.ay) 0 e.ty e.ref:=by
 obtain⟨k,n,nm,on,od,ay,a,ty,ref⟩:=e
 (conv=>lhs;unfold ep)<;>rfl
theorem abg(k n:Int)(nm on:List UInt8)(od:Int)(ks:List E)(a:Int)(ty:T3)(ref:Int):ep (.mk k n nm on od ks a ty ref)=.mk k n nm on od (lT ks) 0 ty ref:=by
 (conv=>lhs;unfold ep)<;>rfl
theorem PK{x y:E}(h:ep x=ep y):x.ty=y.ty:=by
 rw[HC,HC]at h;exact(E.mk.inj h).2.2.2.2.2.2.2.1
def Rel{α:Type}(p:α->α->Prop):Except Int α->Except Int α->Prop
 |.ok a,.ok b=>p a b|.error _,.error _=>True|_,_=>False
theorem Cn(k n:Int)(m:Nat):dR k n m=dR k (oC k n) m:=by
 unfold oC;split
 rfl
 rename_i h;have h2:k≠2:=by omega
 unfold dR;simp only[if_neg h2]
theorem vD:∀{l l':List E},rV l=rV l'->l.length=l'.length
 |[],[],_=>rfl|[],_::_,h=>by cases h|_::_,[],h=>by cases h|a::l,b::l',h=>by
  simp only[rV,List.cons.injEq]at h;simp[vD h.2]
theorem PL{l l':List E}(h:lT l=lT l'):xL l=xL l':=by
 cases l with
 |nil=>cases l' with
  |nil=>rfl|cons b l'=>cases h
 |cons a l=>cases l' with
  |nil=>cases h|cons b l'=>
   simp only[lT,List.cons.injEq]at h;exact PK h.1
theorem PM{l l':List E}(h:lT l=lT l'):EC l=EC l':=by
 cases l with
 |nil=>cases l' with
  |nil=>rfl|cons b l'=>cases h
 |cons a l=>cases l' with
  |nil=>cases h|cons b l'=>
   simp only[lT,List.cons.injEq]at h;cases l with
   |nil=>cases l' with
    |nil=>rfl|cons d l'=>have:=h.2;cases this
   |cons c l=>cases l' with
    |nil=>have:=h.2;cases this|cons d l'=>
     have h2:=h.2;simp only[lT,List.cons.injEq]at h2;exact PK h2.1
theorem LY:∀{fs:List Vd}{l l':List E},lT l=lT l'->kT fs l=kT fs l'
 |fs,[],[],_=>rfl|_,[],_::_,h=>by cases h|_,_::_,[],h=>by cases h|[],a::l,b::l',h=>rfl|f::fs,a::l,b::l',h=>by
  simp only[lT,List.cons.injEq]at h;unfold kT;rw[PK h.1,LY h.2]
theorem PN:∀{l l':List E},lT l=lT l'->l.length=l'.length
 |[],[],_=>rfl|[],_::_,h=>by cases h|_::_,[],h=>by cases h|a::l,b::l',h=>by
  simp only[lT,List.cons.injEq]at h;simp[PN h.2]
theorem V5{H:Hd}{V:List Vd}{k:Int}{nm on:List UInt8}{od:Int}{l l':List E}(h:lT l=lT l'):pL H V k nm on od l=pL H V k nm on od l':=by
 unfold pL ED;rw[PL h,PM h];simp only[LY h]
theorem JB{H:Hd}{V:List Vd}:∀{l l':List E},rV l=rV l'->(∀e∈l,∀e',er e=er e'->Rel (λa b=>ep a=ep b) (xM H V e) (xM H V e'))->Rel (λa b=>lT a=lT b) (oh H V l) (oh H V l')
 |[],[],_,_=>by unfold oh;exact rfl|[],_::_,h,_=>by cases h|_::_,[],h,_=>by cases h|a::l,b::l',h,hp=>by
  simp only[rV,List.cons.injEq]at h;have h1:=hp a List.mem_cons_self b h.1;have h2:=JB h.2 λe he=>hp e (List.mem_cons_of_mem _ he);unfold oh;cases e1:xM H V a with
  |error x=>
   cases e2:xM H V b with
   |error y=>trivial|ok y=>rw[e1,e2]at h1;exact h1.elim
  |ok x=>
   cases e2:xM H V b with
   |error y=>rw[e1,e2]at h1;exact h1.elim|ok y=>
    rw[e1,e2]at h1;have ht:=PK h1;simp only;rw[ht];split
    trivial
    cases e3:oh H V l with
    |error z=>
     cases e4:oh H V l' with
     |error w=>trivial|ok w=>rw[e3,e4]at h2;exact h2.elim
    |ok z=>
     cases e4:oh H V l' with
     |error w=>rw[e3,e4]at h2;exact h2.elim|ok w=>
      rw[e3,e4]at h2;show lT (x::z)=lT (y::w);simp only[lT];rw[h1,h2]
theorem PO(H:Hd)(V:List Vd)(e:E):xM H V e=if dR e.k e.n e.ay.length then
   match oh H V e.ay with
   |.error x=>.error x|.ok ks=>match pL H V e.k e.nm e.on e.od ks with
    |none=>.error e.a|some (t,r)=>.ok (.mk e.k (oC e.k e.n) (jV e.k e.nm) (kU e.k e.on) (kV e.k e.od) ks e.a t r)
  else .error e.a:=by
 obtain⟨k,n,nm,on,od,ay,a,ty,ref⟩:=e
 (conv=>lhs;unfold xM)<;>rfl
theorem PT{H:Hd}{V:List Vd}(e:E):∀e',er e=er e'->Rel (λa b=>ep a=ep b) (xM H V e) (xM H V e'):=by
 induction e using E.xN with
 |_ e ih=>
  intro e' h;rw[tj,tj]at h;obtain⟨h1,h2,h3,h4,h5,h6,_⟩:=E.mk.inj h;have hv:=JB (H:=H) (V:=V) h6 ih;rw[PO,PO,Cn e.k,Cn e'.k,vD h6,h2,<-h1];split;cases e1:oh H V e.ay with
  |error x=>
   cases e2:oh H V e'.ay with
   |error y=>trivial|ok y=>rw[e1,e2]at hv;exact hv.elim
  |ok x=>
   cases e2:oh H V e'.ay with
   |error y=>rw[e1,e2]at hv;exact hv.elim|ok y=>
    rw[e1,e2]at hv;have Cp:lT x=lT y:=hv;simp only;have ht:pL H V e.k e.nm e.on e.od x=pL H V e.k e'.nm e'.on e'.od y:=by
     rw[<-EG (nm:=e.nm),<-EG (nm:=e'.nm),V5 Cp];rw[<-h1]at h3 h4 h5;rw[h3,h4,h5]
    rw[ht];cases pL H V e.k e'.nm e'.on e'.od y with
    |none=>trivial|some z=>
     obtain⟨t,r⟩:=z;show ep _=ep _;rw[abg,abg];rw[<-h1]at h2 h3 h4 h5;rw[h3,h4,h5,Cp]
  trivial
mutual
def Dh:Sm->Sm
 |.mk k nm on od es bd el _ ref=>.mk k nm on od (lT es) (vM bd) (vM el) 0 ref
def vM:List Sm->List Sm
 |[]=>[]
 |s::l=>Dh s::vM l
end
theorem JC(s:Sm):Dh s=.mk s.k s.nm s.on s.od (lT s.es) (vM s.bd) (vM s.el) 0 s.ref:=by
 obtain⟨k,nm,on,od,es,bd,el,a,ref⟩:=s
 (conv=>lhs;unfold Dh)<;>rfl
theorem Bw(k:Int)(nm on:List UInt8)(od:Int)(es:List E)(bd el:List Sm)(a ref:Int):Dh (.mk k nm on od es bd el a ref)=.mk k nm on od (lT es) (vM bd) (vM el) 0 ref:=by
 (conv=>lhs;unfold Dh)<;>rfl
theorem abi{a b:E}(h:er a=er b):a.k=b.k:=by rw[tj,tj]at h;exact(E.mk.inj h).1
theorem RG{ct:Bool}{k:Int}:∀{es r7:List E},rV es=rV r7->eu ct k es=eu ct k r7
 |[],[],_=>rfl|[],_::_,h=>by cases h|_::_,[],h=>by cases h|[a],[b],h=>by
  simp only[rV,List.cons.injEq]at h;unfold eu;simp only[abi h.1,List.length_cons,List.length_nil]
 |[_],_::_::_,h=>by have:=vD h;simp at this|_::_::_,[_],h=>by have:=vD h;simp at this|[a,_],[b,_],h=>by
  simp only[rV,List.cons.injEq]at h;unfold eu;simp only[abi h.1,List.length_cons,List.length_nil]
 |[_,_],_::_::_::_,h=>by have:=vD h;simp at this|_::_::_::_,[_,_],h=>by have:=vD h;simp at this|_::_::_::_,_::_::_::_,h=>by
  have:=vD h;unfold eu;simp only[this]
theorem RH{H:Hd}{k:Int}{on on':List UInt8}{od od':Int}(h1:bI k on=bI k on')(h2:bJ k od=bJ k od'):nQ H k on od=nQ H k on' od':=by
 unfold nQ;unfold bI at h1;unfold bJ at h2;split;rename_i c;rw[if_pos c,if_pos c]at h1 h2;rw[h1,h2]
 rfl
theorem ZJ{H:Hd}{V:List Vd}{k:Int}{es r7:List E}(h:rV es=rV r7):Rel (λa b=>lT a=lT b) (zY H V k es) (zY H V k r7):=by
 unfold zY;split;cases es with
 |nil=>
  cases r7 with
  |nil=>exact rfl|cons b l=>cases h
 |cons a l=>
  cases r7 with
  |nil=>cases h|cons b l'=>
   simp only[rV,List.cons.injEq]at h;have h1:=PT (H:=H) (V:=V) a b h.1;simp only;cases e1:xM H V a with
   |error x=>
    cases e2:xM H V b with
    |error y=>trivial|ok y=>rw[e1,e2]at h1;exact h1.elim
   |ok x=>
    cases e2:xM H V b with
    |error y=>rw[e1,e2]at h1;exact h1.elim|ok y=>
     rw[e1,e2]at h1;show lT [x]=lT [y];simp only[lT];rw[h1]
 exact JB h λe _=>PT e
theorem V6{H:Hd}{res:T3}{V:List Vd}{k:Int}{nm nm':List UInt8}{es r7:List E}{t:T3}(h:lT es=lT r7)(hn:cv k nm=cv k nm'):mH H res V k nm es t=mH H res V k nm' r7 t:=by
 unfold mH;unfold cv at hn;rw[PL h,PM h,PN h];by_cases c1:k=1;rw[if_pos (.inl c1),if_pos (.inl c1)]at hn;rw[hn];by_cases c2:k=2;rw[if_pos (.inr (.inl c2)),if_pos (.inr (.inl c2))]at hn;rw[hn];by_cases c3:k=3;rw[if_pos (.inr (.inr c3)),if_pos (.inr (.inr c3))]at hn;rw[hn];rw[if_neg c1,if_neg c2,if_neg c3,if_neg c1,if_neg c2,if_neg c3]
def RS:Sm×List Vd->Sm×List Vd->Prop:=λa b=>Dh a.1=Dh b.1/\a.2=b.2
def RB:List Sm×List Vd->List Sm×List Vd->Prop:=λa b=>vM a.1=vM b.1/\a.2=b.2
theorem AB{H:Hd}{ct:Bool}{res:T3}:∀{l l':List Sm}{V:List Vd},Cm l=Cm l'->(∀s∈l,∀s',V3 s=V3 s'->∀V,Rel RS (zh H ct res V s) (zh H ct res V s'))->Rel RB (kW H ct res V l) (kW H ct res V l')
 |[],[],V,_,_=>by unfold kW;exact⟨rfl,rfl⟩|[],_::_,_,h,_=>by cases h|_::_,[],_,h,_=>by cases h|a::l,b::l',V,h,hp=>by
  simp only[Cm,List.cons.injEq]at h;have h1:=hp a List.mem_cons_self b h.1 V;unfold kW;cases e1:zh H ct res V a with
  |error x=>
   cases e2:zh H ct res V b with
   |error y=>trivial|ok y=>rw[e1,e2]at h1;exact h1.elim
  |ok x=>
   cases e2:zh H ct res V b with
   |error y=>rw[e1,e2]at h1;exact h1.elim|ok y=>
    rw[e1,e2]at h1;obtain⟨x1,x2⟩:=x;obtain⟨y1,y2⟩:=y;obtain⟨r1,r2⟩:=h1;simp only at r1 r2;subst r2;have h2:=AB (V:=x2) h.2 λe he=>hp e (List.mem_cons_of_mem _ he);simp only;cases e3:kW H ct res x2 l with
    |error z=>
     cases e4:kW H ct res x2 l' with
     |error w=>trivial|ok w=>rw[e3,e4]at h2;exact h2.elim
    |ok z=>
     cases e4:kW H ct res x2 l' with
     |error w=>rw[e3,e4]at h2;exact h2.elim|ok w=>
      rw[e3,e4]at h2;obtain⟨z1,z2⟩:=z;obtain⟨w1,w2⟩:=w;obtain⟨q1,q2⟩:=h2;refine⟨?_,q2⟩;show vM (x1::z1)=vM (y1::w1);simp only[vM];simp only at q1;rw[r1,q1]
theorem ZK{H:Hd}{ct:Bool}{res:T3}(s:Sm):∀s',V3 s=V3 s'->∀V,Rel RS (zh H ct res V s) (zh H ct res V s'):=by
 induction s using Sm.xN with
 |_ s C8 nB=>
  intro s' h V;rw[NP,NP]at h;obtain⟨h1,h2,h3,h4,h5,h6,h7,_⟩:=Sm.mk.inj h;rw[<-h1]at h2 h3 h4;have mO:=ZJ (H:=H) (V:=V) (k:=s.k) h5;rw[oR,oR,<-h1,RG h5,RH h3 h4];split;cases nQ H s.k s'.on s'.od with
  |none=>trivial|some t=>
   simp only;cases e1:zY H V s.k s.es with
   |error x=>
    cases e2:zY H V s.k s'.es with
    |error y=>trivial|ok y=>rw[e1,e2]at mO;exact mO.elim
   |ok x=>
    cases e2:zY H V s.k s'.es with
    |error y=>rw[e1,e2]at mO;exact mO.elim|ok y=>
     rw[e1,e2]at mO;have Qx:lT x=lT y:=mO;simp only;rw[V6 Qx h2];cases mH H res V s.k s'.nm y t with
     |none=>trivial|some z=>
      obtain⟨r,W⟩:=z;simp only;by_cases c5:s.k=5;rw[if_pos c5,if_pos c5];have hb:=AB (ct:=ct) (res:=res) (V:=W) h6 C8;cases e3:kW H ct res W s.bd with
      |error z=>
       cases e4:kW H ct res W s'.bd with
       |error w=>trivial|ok w=>rw[e3,e4]at hb;exact hb.elim
      |ok z=>
       cases e4:kW H ct res W s'.bd with
       |error w=>rw[e3,e4]at hb;exact hb.elim|ok w=>
        rw[e3,e4]at hb;obtain⟨z1,z2⟩:=z;obtain⟨w1,w2⟩:=w;obtain⟨q1,q2⟩:=hb;simp only at q1 q2;subst q2;simp only;have hc:=AB (ct:=ct) (res:=res) (V:=z2) h7 nB;cases e5:kW H ct res z2 s.el with
        |error z=>
         cases e6:kW H ct res z2 s'.el with
         |error w=>trivial|ok w=>rw[e5,e6]at hc;exact hc.elim
        |ok u=>
         cases e6:kW H ct res z2 s'.el with
         |error w=>rw[e5,e6]at hc;exact hc.elim|ok v=>
          rw[e5,e6]at hc;obtain⟨u1,u2⟩:=u;obtain⟨v1,v2⟩:=v;obtain⟨p1,p2⟩:=hc;simp only at p1 p2;refine⟨?_,p2⟩;show Dh _=Dh _;rw[Bw,Bw];rw[h2,h3,h4,Qx,q1,p1]
      rw[if_neg c5,if_neg c5];by_cases c6:s.k=6;rw[if_pos c6,if_pos c6];have hb:=AB (ct:=ct) (res:=res) (V:=W) h6 C8;cases e3:kW H ct res W s.bd with
      |error z=>
       cases e4:kW H ct res W s'.bd with
       |error w=>trivial|ok w=>rw[e3,e4]at hb;exact hb.elim
      |ok z=>
       cases e4:kW H ct res W s'.bd with
       |error w=>rw[e3,e4]at hb;exact hb.elim|ok w=>
        rw[e3,e4]at hb;obtain⟨z1,z2⟩:=z;obtain⟨w1,w2⟩:=w;obtain⟨q1,q2⟩:=hb;simp only at q1 q2;refine⟨?_,q2⟩;show Dh _=Dh _;rw[Bw,Bw];rw[h2,h3,h4,Qx,q1]
      rw[if_neg c6,if_neg c6];refine⟨?_,rfl⟩;show Dh _=Dh _;rw[Bw,Bw];rw[h2,h3,h4,Qx]
  trivial
theorem V8(su:List Bool)(e:E):∀e',ep e=ep e'->(yW su e).isNone=(yW su e').isNone:=by
 induction e using E.xN with
 |_ e ih=>
  intro e' h;rw[HC,HC]at h;obtain⟨h1,_,_,_,_,h6,_,_,h9⟩:=E.mk.inj h;have hl:∀(l l':List E),(∀x∈l,x∈e.ay)->lT l=lT l'->(mC su l).isNone=(mC su l').isNone:=λl=>by
   induction l with
   |nil=>
    intro l' _ h;cases l' with
    |nil=>rfl|cons b l'=>cases h
   |cons a l Ve=>
    intro l' hm h;cases l' with
    |nil=>cases h|cons b l'=>
     simp only[lT,List.cons.injEq]at h;have a1:=ih a (hm a List.mem_cons_self) b h.1;have a2:=Ve l' (λx hx=>hm x (List.mem_cons_of_mem _ hx)) h.2;rw[qQ,qQ];revert a1 a2;cases yW su a<;>cases yW su b<;>simp[oU]
  have hk:=hl e.ay e'.ay (λ_ h=>h) h6;rw[IN,IN,h1,h9];revert hk;cases mC su e.ay<;>cases mC su e'.ay<;>simp[oU];split<;>rfl
theorem HD(su:List Bool):∀{l l':List E},lT l=lT l'->(mC su l).isNone=(mC su l').isNone
 |[],[],_=>rfl|[],_::_,h=>by cases h|_::_,[],h=>by cases h|a::l,b::l',h=>by
  simp only[lT,List.cons.injEq]at h;have a1:=V8 su a b h.1;have a2:=HD su h.2;rw[qQ,qQ];revert a1 a2;cases yW su a<;>cases yW su b<;>simp[oU]
def SR(x y:List Bool×Option Int):Prop:=x.1=y.1/\x.2.isNone=y.2.isNone
theorem uy{a b c d:Option Int}(h:a.isNone=c.isNone)(k:b.isNone=d.isNone):(oU a b).isNone=(oU c d).isNone:=by
 cases a<;>cases c<;>simp_all [oU]
theorem xU:∀{l l':List Sm}{su:List Bool},vM l=vM l'->(∀s∈l,∀s',Dh s=Dh s'->∀su,SR (oz su s) (oz su s'))->SR (iP su l) (iP su l')
 |[],[],su,_,_=>⟨rfl,rfl⟩
 |[],_::_,_,h,_=>by cases h|_::_,[],_,h,_=>by cases h|a::l,b::l',su,h,hp=>by
  simp only[vM,List.cons.injEq]at h;obtain⟨a1,a2⟩:=hp a List.mem_cons_self b h.1 su;obtain⟨b1,b2⟩:=xU (su:=(oz su a).1) h.2 λs hs=>hp s (List.mem_cons_of_mem _ hs);rw[Bh,Bh,<-a1];exact⟨b1,uy a2 b2⟩
theorem RI(s:Sm):∀s',Dh s=Dh s'->∀su,SR (oz su s) (oz su s'):=by
 induction s using Sm.xN with
 |_ s C8 nB=>
  intro s' h su;rw[JC,JC]at h;obtain⟨h1,_,_,_,h5,h6,h7,_,h9⟩:=Sm.mk.inj h;have hb:∀su,SR (iP su s.bd) (iP su s'.bd):=λsu=>xU h6 C8;have hc:∀su,SR (iP su s.el) (iP su s'.el):=λsu=>xU h7 nB;have he:=HD su h5;rw[IP,IP,<-h1,<-h9];split;exact⟨rfl,he⟩;split;exact⟨rfl,he⟩;split;exact⟨rfl,he⟩;split;exact⟨rfl,uy he (hb su).2⟩;split;exact⟨by rw[(hb su).1,(hc su).1],uy he (uy (hb su).2 (hc su).2)⟩;exact⟨rfl,he⟩
theorem NR{l l':List Sm}{su:List Bool}(h:vM l=vM l'):SR (iP su l) (iP su l'):=xU h λs _=>RI s
def RF:List Bd->List Bd->Prop
 |[],[]=>True|a::l,b::m=>a.vars=b.vars/\vM a.code=vM b.code/\RF l m|_,_=>False
theorem PU{H:Hd}:∀{ss:List Sg}{fs gs:List Fc},fs.map (λf=>Cm f.body)=gs.map (λf=>Cm f.body)->Rel RF (pM H ss fs) (pM H ss gs)
 |[],fs,gs,_=>by
  have:∀fs,pM H [] fs=.ok []:=λfs=>by unfold pM;rfl
  rw[this,this];trivial
 |s::ss,[],[],_=>by
  have:pM H (s::ss) []=.ok []:=by unfold pM;rfl
  rw[this];trivial
 |s::ss,[],_::_,h=>by cases h|s::ss,_::_,[],h=>by cases h|s::ss,f::fs,g::gs,h=>by
  simp only[List.map_cons,List.cons.injEq]at h;have h1:=AB (H:=H) (ct:=s.ct) (res:=s.res) (V:=s.ps) h.1 λx _=>ZK x;have h2:=PU (H:=H) (ss:=ss) h.2;unfold pM;cases e1:kW H s.ct s.res s.ps f.body with
  |error x=>
   cases e2:kW H s.ct s.res s.ps g.body with
   |error y=>trivial|ok y=>rw[e1,e2]at h1;exact h1.elim
  |ok x=>
   cases e2:kW H s.ct s.res s.ps g.body with
   |error y=>rw[e1,e2]at h1;exact h1.elim|ok y=>
    rw[e1,e2]at h1;obtain⟨x1,x2⟩:=x;obtain⟨y1,y2⟩:=y;obtain⟨r1,r2⟩:=h1;simp only at r1 r2 ⊢;cases e3:pM H ss fs with
    |error z=>
     cases e4:pM H ss gs with
     |error w=>trivial|ok w=>rw[e3,e4]at h2;exact h2.elim
    |ok z=>
     cases e4:pM H ss gs with
     |error w=>rw[e3,e4]at h2;exact h2.elim|ok w=>
      rw[e3,e4]at h2;exact⟨r2,r1,h2⟩
theorem HE:∀{ss:List Sg}{bs cs:List Bd},RF bs cs->(yX ss bs).isNone=(yX ss cs).isNone
 |[],bs,cs,_=>by
  have:∀bs,yX [] bs=none:=λbs=>by unfold yX;rfl
  rw[this,this]
 |s::ss,[],[],_=>rfl|s::ss,[],_::_,h=>h.elim|s::ss,_::_,[],h=>h.elim|s::ss,b::bs,c::cs,h=>by
  obtain⟨h1,h2,h3⟩:=h;unfold yX;refine uy ?_ (HE h3);have:su0 s b=su0 s c:=by unfold su0;rw[h1]
  rw[this];exact(NR h2).2
end wU
