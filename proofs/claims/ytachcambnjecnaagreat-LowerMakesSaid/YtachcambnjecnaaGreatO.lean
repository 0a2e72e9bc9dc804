/- Part of a proof. -/
import Derived.Test.YtachcambnjecnaaGreatM

set_option maxRecDepth 100000
set_option maxHeartbeats 4000000
namespace U7
open Ax Go bu V7
theorem ER(wl af:Nat)(l:AV)(s:List UInt8)(d:Int)(st:aj)(hl:qg l=true)(hn:(ee l).length<1000000000) :
  (bh S).call wl af 89 [l,.agg [.str s,.int .i64 d]] st=some (.fm [.agg (bZ (ee l) s d).1.cells,.bool (bZ (ee l) s d).2],st):=by
 have h1:=xz hl;have h2:=wj hl;have h3:=JB hl;refine bL (sf:=Zp) rfl rfl (by simp[ck h1]) rfl (by simp[AV.ax,AV.ai]) ?_;by_cases d0:d<0;rw[CM (.inl d0)];simp[Zp,d0];by_cases d3:3<d;rw[CM (.inr d3)];simp[Zp,d0,d3];have hd:¬(d<0\/3<d):=by omega
 unfold bZ;rw[if_neg hd];by_cases i1:s=[105,110,116];simp[Zp,d0,d3,i1];by_cases i2:s=[98,111,111,108];simp[Zp,d0,d3,i2];rw[if_neg i1,if_neg i2];simp[Zp,d0,d3,i1,i2];refine bf RZ.eq_1 (λk:Nat=>⟨[(0,.val l),(3,.fp 0 0),(4,.fp 1 0),(6,.val (.int .i64 k))],[[.str s,.int .i64 d],[.int .i64 0,.int .i64 0,.int .i64 0]],[]⟩)
  (λk=>k<=(ee l).length/\Cl (λx=>decide (x=s)) (ee l) k) (λk=>(ee l).length-k) 0 (by simp) ⟨by simp,qM⟩ ?_
 rintro k ⟨hk,hp⟩ ih;by_cases aW:k<(ee l).length;have hw:=wk k (by omega);by_cases e:(ee l)[k]=s;have hi:=HJ hp aW e;have h0:¬((k:Int)<0):=by omega
 simp[hl,h2,h3,aW,e,hi,h0,au,an];simp[hl,h2,h3,aW,e,hw,au,an];exact ih (k+1) ⟨by omega,qN hp aW (by simpa using e)⟩ (by omega);have eK:k=(ee l).length:=by omega
 have hi:=AY (eK ▸ hp);simp[hl,h2,h3,aW,hi]
theorem CS(wl af:Nat)(t:T3)(st:aj):(bh S).call wl af 34 [.agg t.cells] st=some (.bool (nJ t),st):=by
 refine bL (sf:=s34) rfl rfl (by simp) rfl (by simp) ?_;unfold nJ;by_cases b:t.b=3;simp[s34,b];simp[s34,b]
end U7
namespace U7
open Ax Go bu V7
theorem AB(wl af:Nat)(a:Int)(st:aj):(bh S).call wl af 87 [.int .i64 a] st=some (.agg [.int .i64 3,.int .i64 a],st):=by
 refine bL (sf:=s87) rfl rfl (by simp) rfl (by simp) ?_;simp[s87]
theorem Kc(wl af:Nat)(p:GD)(st:aj)(hp:p.ok)(hn:(cj p.aR).length<1000000000):(bh S).call wl af 50 [.agg p.cells] st=some (bD 1 (ga (iK (cj p.aR))),st):=by
 have p1:=CH hp.aR;have p2:=zR hp.aR;have p3:=D4 hp.aR;have g1:=sU hp.globals;have g2:=pz hp.globals;have f1:=CI hp.funcs;have f2:=zS hp.funcs;have hpr:=hp.aR;refine bL (sf:=s50) rfl rfl (by simp[GD.cells,AV.ai,AV.ax,p1,g1,f1]) rfl (by simp) ?_;simp[s50,GD.cells,p1,g1,f1];refine bf Rz.eq_1 (λk:Nat=>⟨[(1,.fp 0 0),(3,.val (bD 1 (ga (iK ((cj p.aR).take k))))),(4,.val (.int .i64 k))],[[p.aR,p.globals,p.funcs]],[]⟩)
  (λk=>k<=(cj p.aR).length) (λk=>(cj p.aR).length-k) 0 (by simp[iK,ga,jB]) (by simp) ?_
 intro k hk ih;by_cases aW:k<(cj p.aR).length;have hw:=wk k (by omega);have ha:nH 1 16 (bD 1 (ga (iK ((cj p.aR).take k)))) [[.str (cj p.aR)[k].name]]=some (bD 1 (ga (iK ((cj p.aR).take (k+1))))):=by
  rw[dV (by rfl) (by simp[ga,iK,cR];omega)];simp only[iK,ga,List.take_succ_eq_append_getElem aW,List.map_append,List.map_cons,List.map_nil]
 simp[p2,p3,hpr,aW,CR.cells,hw,ha];exact ih (k+1) (by omega) (by omega);have eK:k=(cj p.aR).length:=by omega
 subst eK;simp[p1,p2,p3]
def Wv(o:Bool)(l:List PD)(s:List UInt8)(j:Nat):Bool:=o && !((l.take j).any λq=>decide (q.name=s))
theorem Tt{o:Bool}{l:List PD}{s:List UInt8}{j:Nat}(h:j<l.length):Wv o l s (j+1)=(Wv o l s j && !decide (l[j].name=s)):=by
 unfold Wv;rw[List.take_succ_eq_append_getElem h,List.any_append];simp[Bool.and_assoc]
def rfV(rs:List (List UInt8))(l:List PD):AV:=.fm [match cH (nU rs) l l.length with|some _=>.U|none=>bD 4 (dA rs l),.agg (yp (cH (nU rs) l l.length))]
theorem nD{α:Type}{vu:List α->α->Option Int}{l:List α}{k:Nat}{y:Int}(h:cH vu l k=some y):∀m,k<=m->cH vu l m=some y:=by
 intro m hm;induction m with
 |zero=>
  have:k=0:=by omega
  subst this;exact h
 |succ m ih=>
  by_cases e:k=m+1;subst e;exact h;show wm (cH vu l m) _=some y;rw[ih (by omega)];rfl
theorem y9(wl af:Nat)(l rl:AV)(st:aj)(hl:qg rl=true)(hn:(ee rl).length<1000000000)(hp:AZ l=true)(hpn:(iJ l).length<1000000000) :
  (bh S).call wl af 88 [rl,l] st=some (rfV (ee rl) (iJ l),st):=by
 have h1:=xz hl;have h2:=wj hl;have p1:=sU hp;have p2:=pz hp;have p3:=Nc hp;have e1:=λwl af s d st=>ER wl af rl s d st hl hn;have e2:=λwl af a st=>AB wl af a st;simp only[T3.cells]at e1;refine bL (sf:=s88) rfl rfl (by simp[ck h1,ck p1]) rfl (by cases h:cH (nU (ee rl)) (iJ l) (iJ l).length<;>simp[rfV,h,yp,AV.ax,AV.ai]) ?_;simp[s88];refine bf RX.eq_1 (λq:Nat×List AV=>⟨[(0,.val rl),(1,.val l),(5,.fp 0 0),(6,.val (bD 4 (dA (ee rl) ((iJ l).take q.1)))),(7,.val (.int .i64 q.1))],[[.int .i64 0,.int .i64 0],q.2],[]⟩)
  (λq=>q.1<=(iJ l).length/\cH (nU (ee rl)) (iJ l) q.1=none) (λq=>(iJ l).length-q.1) ((0,[]):Nat×List AV) (by simp[dA,jB]) ⟨by simp,rfl⟩ ?_
 rintro⟨k,bb⟩ ⟨hk,hf⟩ ih;simp only at hk hf ih;by_cases aW:k<(iJ l).length;have hw:=wk k (by omega);have hb:=kj (vu:=nU (ee rl)) aW;rw[hf]at hb;have hr:=Af (rs:=ee rl) aW;have hlen:(dA (ee rl) ((iJ l).take k)).length=k:=by simp[dA];omega
 have ha:nH 4 40 (bD 4 (dA (ee rl) ((iJ l).take k))) [A6 (ee rl) (iJ l)[k]]=some (bD 4 (dA (ee rl) ((iJ l).take (k+1)))):=by
  rw[dV (by rfl) (by rw[hlen];simp[cR];omega),hr]
 generalize hq:(iJ l)[k]=p at *;simp only[A6,T3.cells]at ha;obtain⟨o,ho⟩:∃o,o=(bZ (ee rl) p.on p.od).2:=⟨_,rfl⟩;simp[h2,p2,p3,hp,aW,PD.cells,hq,e1];refine bf RW.eq_1 (λj:Nat=>⟨[(0,.val rl),(1,.val l),(5,.fp 0 0),(6,.val (bD 4 (dA (ee rl) ((iJ l).take k)))),(7,.val (.int .i64 k)),(8,.fp 1 0),(9,.val (.bool (Wv o (iJ l) p.name j))),(10,.val (.int .i64 j))],
   [[.int .i64 0,.int .i64 0],(bZ (ee rl) p.on p.od).1.cells],[]⟩)
  (λj=>j<=k) (λj=>k-j) 0 (by simp[Wv,ho]) (by simp) ?_
 intro j hj k7;by_cases tV:j<k;have BJ:=wk j (by omega);have xg:j<(iJ l).length:=by omega
 have hs:=Tt (o:=o) (s:=p.name) xg;have Kk:=k7 (j+1) (by omega) (by omega);rw[hs]at Kk;cases Pu:Wv o (iJ l) p.name j with
 |false=>
  rw[Pu]at Kk;simp[tV,BJ,au,an];simp only[Bool.false_and]at Kk;exact Kk
 |true=>
  rw[Pu]at Kk;by_cases Km:(iJ l)[j].name=p.name;simp[p2,p3,hp,tV,xg,aW,PD.cells,BJ,hq,Km,au,an];simp only[Km,decide_true,Bool.not_true,Bool.and_false]at Kk;exact Kk;simp[p2,p3,hp,tV,xg,aW,PD.cells,BJ,hq,Km,au,an];simp only[decide_eq_false Km,Bool.not_false,Bool.and_true]at Kk;exact Kk
 have DY:j=k:=by omega
 subst DY;simp;cases Pu:Wv o (iJ l) p.name j with
 |true=>
  have uK:nU (ee rl) ((iJ l).take j) p=none:=by
   simp only[Wv,Bool.and_eq_true,Bool.not_eq_true',ho]at Pu;unfold nU;rw[Pu.2,Pu.1];rfl
  rw[uK]at hb;simp[p2,p3,hp,aW,PD.cells,hw,hq,ha,au,an];exact ih (j+1,_) ⟨by simp;omega,hb⟩ (by simp;omega)
 |false=>
  have uK:nU (ee rl) ((iJ l).take j) p=some p.at_:=by
   unfold nU;rw[if_pos];simp only[Wv,Bool.and_eq_false_iff,Bool.not_eq_false',ho]at Pu;rcases Pu with h|h;rw[h];simp;rw[h];rfl
  rw[uK]at hb;have Ok:=nD (show cH (nU (ee rl)) (iJ l) (j+1)=some p.at_ from hb) (iJ l).length (by omega);simp[p3,hp,aW,PD.cells,hq,e2,rfV,Ok,yp]
 have eK:k=(iJ l).length:=by omega
 subst eK;simp[p1,p2,p3,rfV,hf,yp]
end U7
namespace U7
open Ax Go bu V7
def rS(l:List FN):Nat->Int
 |0=>-1|k+1=>match l[k]? with
  |some x=>if eO x then (k:Int) else rS l k
  |none=>rS l k
theorem L5{a b:Option Int}(h:wm a b=none):a=none/\b=none:=by
 cases a with
 |none=>exact⟨rfl,h⟩|some x=>cases h
theorem ES{α:Type}{vu:List α->α->Option Int}{l:List α}:∀{m:Nat},cH vu l m=none->∀k (h:k<l.length),k<m->vu (l.take k) l[k]=none
 |0,_,k,_,hk=>absurd hk (by omega)|m+1,h,k,hl,hk=>by
  obtain⟨h1,h2⟩:=L5 h;by_cases e:k=m;subst e;rw[List.getElem?_eq_getElem hl]at h2;exact h2;exact ES h1 k hl (by omega)
theorem B5{x:FN}(h:eO x=true):x.name=Ah:=by
 simp only[eO,Bool.and_eq_true,decide_eq_true_eq]at h;exact h.1.1
theorem za{l:List FN}(h:∀k (hk:k<l.length),eO l[k]=false):∀m,rS l m = -1
 |0=>rfl|m+1=>by
  unfold rS;by_cases hm:m<l.length;rw[List.getElem?_eq_getElem hm];simp[h m hm,za h m];rw[List.getElem?_eq_none (by omega)];exact za h m
theorem ET{l:List FN}{j:Nat}(hj:j<l.length)(hm:eO l[j]=true)(h1:∀k (hk:k<l.length),k<j->eO l[k]=false)(h2:∀k (hk:k<l.length),j<k->eO l[k]=false):∀m,rS l m=if j<m then (j:Int) else -1
 |0=>by simp[rS]|m+1=>by
  have ih:=ET hj hm h1 h2 m;unfold rS;by_cases hml:m<l.length;rw[List.getElem?_eq_getElem hml];dsimp only;by_cases e:m=j;subst e;rw[if_pos hm,if_pos (by omega)];have hf:eO l[m]=false:=by
   rcases Nat.lt_or_gt_of_ne e with h|h;exact h1 m hml h;exact h2 m hml h
  rw[if_neg (by rw[hf];simp),ih];by_cases hjm:j<m;rw[if_pos hjm,if_pos (by omega)];rw[if_neg hjm,if_neg (by omega)];rw[List.getElem?_eq_none (by omega)];dsimp only;rw[ih,if_pos (by omega),if_pos (by omega)]
theorem main_eq{l:List FN}(h:∀k (hk:k<l.length),JQ (l.take k) l[k]=none):rS l l.length=tK l:=by
 unfold tK;cases e:l.findIdx? eO with
 |none=>
  rw[List.findIdx?_eq_none_iff]at e;exact za (λk hk=>e _ (List.getElem_mem hk)) _
 |some j=>
  obtain⟨hj,h1,h2⟩:=List.findIdx?_eq_some_iff_getElem.1 e;rw[ET hj h1 (λk hk hkj=>by simpa using h2 k hkj) (λk hk tV=>?_),if_pos hj];cases hb:eO l[k] with
  |false=>rfl|true=>
   have:=h k hk;unfold JQ at this;rw[if_pos]at this;cases this;rw[List.any_eq_true];refine⟨l[j],?_,?_⟩;exact List.mem_take_iff_getElem.2 ⟨j,by omega,rfl⟩;rw[B5 h1,B5 hb];simp
theorem Kd{α:Type}{p:α->Bool}{l:List α}{k:Nat}(h:Cl p (l.take k) k):(l.take k).any p=false:=by
 rw[List.any_eq_false];intro q hq;obtain⟨i,hi,rfl⟩:=List.mem_iff_getElem.1 hq;have:=h i hi (by simp at hi;omega);rw[this];simp
theorem fH{p:GD}{y:Int}(h:lY p=some y):yY p=.fm [qi,.agg [.int .i64 3,.int .i64 y]]:=by
 have:iS p=some y:=by unfold iS;rw[h];split<;>rfl
 unfold yY;rw[this];rfl
theorem f3A{p:GD}{y:Int}(h:cH tJ (cj p.aR) (cj p.aR).length=some y):lY p=some y:=by unfold lY;rw[h];rfl
theorem f3B{p:GD}{y:Int}(a:cH tJ (cj p.aR) (cj p.aR).length=none)(h:cH (yV (iK (cj p.aR))) (cj p.aR) (cj p.aR).length=some y):lY p=some y:=by unfold lY;rw[a,h];rfl
theorem f3C{p:GD}{y:Int}(a:cH tJ (cj p.aR) (cj p.aR).length=none)(b:cH (yV (iK (cj p.aR))) (cj p.aR) (cj p.aR).length=none)
  (h:cH (nU (iK (cj p.aR))) (iJ p.globals) (iJ p.globals).length=some y):lY p=some y:=by unfold lY;rw[a,b,h];rfl
theorem f3D{p:GD}{y:Option Int}(a:cH tJ (cj p.aR) (cj p.aR).length=none)(b:cH (yV (iK (cj p.aR))) (cj p.aR) (cj p.aR).length=none)
  (c:cH (nU (iK (cj p.aR))) (iJ p.globals) (iJ p.globals).length=none)(h:cH (xV (iK (cj p.aR))) (dN p.funcs) (dN p.funcs).length=y):lY p=y:=by unfold lY;rw[a,b,c,h];rfl
theorem Tu(wl af:Nat)(p:GD)(st:aj)(hp:p.ok)(hs:GD.sm p):(bh S).call wl af 49 [.agg p.cells] st=some (yY p,st):=by
 have p1:=CH hp.aR;have p2:=zR hp.aR;have p3:=D4 hp.aR;have pr:=hp.aR;have g1:=sU hp.globals;have g2:=pz hp.globals;have f1:=CI hp.funcs;have f2:=zS hp.funcs;have f3:=JC hp.funcs;have fr:=hp.funcs;have en:=λwl af st=>Kc wl af p st hp hs.aR;have e2:=λwl af a st=>AB wl af a st;simp only[GD.cells]at en;obtain⟨rs,CN⟩:∃rs,rs=iK (cj p.aR):=⟨_,rfl⟩;have OP:rs.length=(cj p.aR).length:=by rw[CN];simp[iK]
 have hrk:∀k (h:k<rs.length) (h2:k<(cj p.aR).length),rs[k]=(cj p.aR)[k].name:=by intro k h h2;subst CN;simp[iK]
 have n1:aD (bD 1 (ga rs))=true:=bY;have n2:=wE rs;have n3:aM (bD 1 (ga rs))=rs.map λs=>[.str s]:=pN;have n4:ee (bD 1 (ga rs))=rs:=sD rs;have n5:bX 1 (bD 1 (ga rs))=true:=by simpa using Na n2
 rw[<-CN]at en;generalize bD 1 (ga rs)=nl at *;have alh:=hs.aR;have ajM:=hs.funcs;refine bL (sf:=s49) rfl rfl (by simp[GD.cells,AV.ai,AV.ax,p1,g1,f1]) rfl (by cases h:iS p<;>simp[yY,h,qi,wF,AV.ax,AV.ai]) ?_;simp[s49,GD.cells,p1,p2,g1,g2,f1,f2,en];refine bf Rv.eq_1 (λk:Nat=>⟨[(1,.fp 0 0),(2,.fp 1 0),(3,.fp 2 0),(4,.val nl),(5,.val (.int .i64 k))],
   [[p.aR,p.globals,p.funcs],[.U,.U,.U,.int .i64 0],[.int .i64 0,.int .i64 0],[],[],[],[],[],[],[]],[]⟩)
  (λk=>k<=(cj p.aR).length/\cH tJ (cj p.aR) k=none) (λk=>(cj p.aR).length-k) 0 (by simp) ⟨by simp,rfl⟩ ?_
 intro k ⟨hk,hA⟩ ih;by_cases aW:k<(cj p.aR).length;have hw:=wk k (by omega);have hb:=kj (vu:=tJ) aW;rw[hA]at hb;have Kz:k<rs.length:=by omega
 simp[n1,n3,OP,aW];refine bf Ru.eq_1 (λj:Nat=>⟨[(1,.fp 0 0),(2,.fp 1 0),(3,.fp 2 0),(4,.val nl),(5,.val (.int .i64 k)),(6,.val (.int .i64 j))],
   [[p.aR,p.globals,p.funcs],[.U,.U,.U,.int .i64 0],[.int .i64 0,.int .i64 0],[],[],[],[],[],[],[]],[]⟩)
  (λj=>j<=k/\Cl (λq:CR=>decide (q.name=(cj p.aR)[k].name)) ((cj p.aR).take k) j) (λj=>k-j) 0 (by simp) ⟨by simp,qM⟩ ?_
 intro j ⟨hj,hn⟩ k7;by_cases tV:j<k;have BJ:=wk j (by omega);have XI:j<rs.length:=by omega
 have xg:j<(cj p.aR).length:=by omega
 have e1:=hrk j XI xg;have e3:=hrk k Kz aW;have Og:j<((cj p.aR).take k).length:=by simp;omega
 have hjg:((cj p.aR).take k)[j]=(cj p.aR)[j]:=List.getElem_take;by_cases Km:(cj p.aR)[j].name=(cj p.aR)[k].name;have uK:tJ ((cj p.aR).take k) (cj p.aR)[k]=some (cj p.aR)[k].at_:=by
  unfold tJ;rw[if_pos];exact List.any_eq_true.2 ⟨_,List.getElem_mem Og,by rw[hjg];simpa using Km⟩
 rw[uK]at hb;have hr:=fH (f3A (nD (show cH tJ (cj p.aR) (k+1)=some _ from hb) _ (by omega)));rw[hr];simp[n3,n5,XI,Kz,tV,e1,e3,Km,p2,p3,pr,aW,CR.cells,e2,qi,au,an];simp[n3,n5,XI,Kz,tV,e1,e3,Km,BJ,au,an];exact k7 (j+1) ⟨by omega,qN hn Og (by rw[hjg];simpa using Km)⟩ (by omega);have DY:j=k:=by omega
 subst DY;have uK:tJ ((cj p.aR).take j) (cj p.aR)[j]=none:=by
  unfold tJ;rw[Kd hn];rfl
 rw[uK]at hb;simp[hw];exact ih (j+1) ⟨by omega,hb⟩ (by omega);have eK:k=(cj p.aR).length:=by omega
 subst eK;simp[n1,n3,OP];refine bf Rw.eq_1 (λq:Nat×List AV=>⟨[(1,.fp 0 0),(2,.fp 1 0),(3,.fp 2 0),(4,.val nl),(7,.fp 3 0),(8,.val (.int .i64 q.1))],
   [[p.aR,p.globals,p.funcs],[.U,.U,.U,.int .i64 0],[.int .i64 0,.int .i64 0],[bD 2 (jC rs ((cj p.aR).take q.1)),.U,.U,.int .i64 (-1)],q.2,[],[],[],[],[]],[]⟩)
  (λq=>q.1<=(cj p.aR).length/\cH (yV rs) (cj p.aR) q.1=none) (λq=>(cj p.aR).length-q.1) ((0,[]):Nat×List AV) (by simp[jC,jB]) ⟨by simp,rfl⟩ ?_
 rintro⟨k,bb⟩ ⟨hk,hB⟩ ih;simp only at hk hB ih;by_cases aW:k<(cj p.aR).length;have hw:=wk k (by omega);have hb:=kj (vu:=yV rs) aW;rw[hB]at hb;have Kz:k<rs.length:=by omega
 have e1:=hrk k Kz aW;have hF:=A5 hp.aR _ (List.getElem_mem aW);have ON:=sU hF;have Is:=pz hF;have Z2:=hs.cP _ (List.getElem_mem aW);have e3:=λwl af st=>y9 wl af (cj p.aR)[k].cP nl.view st n2 (by rw[mj,n4];omega) hF Z2;simp only[mj,n4,rfV]at e3;have ha:nH 2 40 (bD 2 (jC rs ((cj p.aR).take k))) [Ba rs (cj p.aR)[k]]=some (bD 2 (jC rs ((cj p.aR).take (k+1)))):=by
  rw[dV (by rfl) (by simp[jC,cR];omega)];simp only[jC,List.take_succ_eq_append_getElem aW,List.map_append,List.map_cons,List.map_nil]
 simp only[Ba]at ha;cases hf:yV rs ((cj p.aR).take k) (cj p.aR)[k] with
 |some y=>
  rw[hf]at hb;have hr:=fH (f3B hA (CN ▸ nD (show cH (yV rs) (cj p.aR) (k+1)=some _ from hb) _ (by omega)));rw[hr];simp only[yV]at hf;simp only[hf,yp]at e3;simp[p2,p3,pr,aW,CR.cells,Is,e3,qi,aU,bG,eC.bg,mc]
 |none=>
  rw[hf]at hb;simp only[yV]at hf;simp only[hf,yp]at e3;simp[p2,p3,pr,aW,CR.cells,Is,n3,n5,Kz,e1,e3,hw,ha,aU,bG,eC.bg,mc];exact ih (k+1,_) ⟨by simp;omega,hb⟩ (by simp;omega)
 have eK:k=(cj p.aR).length:=by omega
 subst eK;have eg:=λwl af st=>y9 wl af p.globals nl.view st n2 (by rw[mj,n4];omega) hp.globals hs.globals;simp only[mj,n4,rfV]at eg;cases hC:cH (nU rs) (iJ p.globals) (iJ p.globals).length with
 |some y=>
  have hr:=fH (f3C hA (CN ▸ hB) (CN ▸ hC));rw[hr];simp only[hC,yp]at eg;simp[p1,p2,p3,g2,eg,qi,aU,bG,eC.bg,mc]
 |none=>
  simp only[hC,yp]at eg;simp[p1,p2,p3,g2,eg,eC.bg,mc];obtain⟨RR,hRR⟩:∃v,v=bD 2 (jC rs (cj p.aR)):=⟨_,rfl⟩;obtain⟨GG,hGG⟩:∃v,v=(bD 4 (dA rs (iJ p.globals))).view:=⟨_,rfl⟩;rw[<-hRR,<-hGG];have hGs:aD GG=true:=by rw[hGG];simp
  have hGv:GG.view=GG:=by rw[hGG];exact oK _
  have hRs:aD RR=true:=by rw[hRR];simp
  refine bf Ry.eq_1 (λq:Nat×List AV×List AV×List AV×List AV=>⟨[(1,.fp 0 0),(2,.fp 1 0),(3,.fp 2 0),(4,.val nl),(7,.fp 3 0),(13,.val (.int .i64 q.1))],
    [[p.aR,p.globals,p.funcs],[.U,.U,.U,.int .i64 0],[.int .i64 0,.int .i64 0],[RR,GG,bD 6 (fO rs ((dN p.funcs).take q.1)),.int .i64 (rS (dN p.funcs) q.1)],bb,[.int .i64 0,.int .i64 0],q.2.1,q.2.2.1,q.2.2.2.1,q.2.2.2.2],[]⟩)
   (λq=>q.1<=(dN p.funcs).length/\cH (xV rs) (dN p.funcs) q.1=none) (λq=>(dN p.funcs).length-q.1) ((0,[],[],[],[]):Nat×List AV×List AV×List AV×List AV) (by simp[fO,jB,rS]) ⟨by simp,rfl⟩ ?_
  rintro⟨k,b6,b7,b8,b9⟩ ⟨hk,hD⟩ ih;simp only at hk hD ih;by_cases aW:k<(dN p.funcs).length;have hw:=wk k (by omega);have hb:=kj (vu:=xV rs) aW;rw[hD]at hb;have hG:=Gh hp.funcs _ (List.getElem_mem aW);have hG1:=hG.1;have ON:=sU hG.1;have Is:=pz hG.1;have JR:=hG.2.2;have XL:=wh hG.2.1 hG.2.2;have Z2:=hs.params _ (List.getElem_mem aW);have e3:=λwl af st=>y9 wl af (dN p.funcs)[k].params nl.view st n2 (by rw[mj,n4];omega) hG.1 Z2;have et:=λwl af st=>ER wl af nl.view (dN p.funcs)[k].on (dN p.funcs)[k].od st n2 (by rw[mj,n4];omega);simp only[mj,n4,rfV,T3.cells]at e3 et;have ha:nH 6 72 (bD 6 (fO rs ((dN p.funcs).take k))) [iL rs (dN p.funcs)[k]]=some (bD 6 (fO rs ((dN p.funcs).take (k+1)))):=by
   rw[dV (by rfl) (by simp[fO,cR];omega)];simp only[fO,List.take_succ_eq_append_getElem aW,List.map_append,List.map_cons,List.map_nil]
  have VT:rS (dN p.funcs) (k+1)=if eO (dN p.funcs)[k] then (k:Int) else rS (dN p.funcs) k:=by simp[rS,aW]
  have ank:aD (bD 6 (fO rs ((dN p.funcs).take k)))=true:=bY;simp[f2,f3,fr,aW,FN.cells,hG1,JR,XL,Is];refine bf Rx.eq_1 (λj:Nat=>⟨[(1,.fp 0 0),(2,.fp 1 0),(3,.fp 2 0),(4,.val nl),(7,.fp 3 0),(13,.val (.int .i64 k)),(14,.fp 6 0),(15,.val (.int .i64 j))],
    [[p.aR,p.globals,p.funcs],[.U,.U,.U,.int .i64 0],[.int .i64 0,.int .i64 0],[RR,GG,bD 6 (fO rs ((dN p.funcs).take k)),.int .i64 (rS (dN p.funcs) k)],bb,[.int .i64 0,.int .i64 0],(dN p.funcs)[k].cells,b7,b8,b9],[]⟩)
   (λj=>j<=k/\Cl (λq:FN=>decide (q.name=(dN p.funcs)[k].name)) ((dN p.funcs).take k) j) (λj=>k-j) 0 (by simp[FN.cells]) ⟨by simp,qM⟩ ?_
  intro j ⟨hj,hn⟩ k7;by_cases tV:j<k;have BJ:=wk j (by omega);have xg:j<(dN p.funcs).length:=by omega
  have Og:j<((dN p.funcs).take k).length:=by simp;omega
  have hjg:((dN p.funcs).take k)[j]=(dN p.funcs)[j]:=List.getElem_take;by_cases Km:(dN p.funcs)[j].name=(dN p.funcs)[k].name;have uK:xV rs ((dN p.funcs).take k) (dN p.funcs)[k]=some (dN p.funcs)[k].at_:=by
   unfold xV JQ;rw[if_pos]
   rfl
   exact List.any_eq_true.2 ⟨_,List.getElem_mem Og,by rw[hjg];simpa using Km⟩
  rw[uK]at hb;have hr:=fH (f3D hA (CN ▸ hB) (CN ▸ hC) (CN ▸ nD (show cH (xV rs) (dN p.funcs) (k+1)=some _ from hb) _ (by omega)));rw[hr];simp[f2,f3,fr,tV,xg,FN.cells,Km,e2,qi,au,an];simp[f2,f3,fr,tV,xg,FN.cells,Km,BJ,au,an];exact k7 (j+1) ⟨by omega,qN hn Og (by rw[hjg];simpa using Km)⟩ (by omega);have DY:j=k:=by omega
  subst DY;have hDn:JQ ((dN p.funcs).take j) (dN p.funcs)[j]=none:=by
   unfold JQ;rw[Kd hn];rfl
  have hS:xV rs ((dN p.funcs).take j) (dN p.funcs)[j]=wm (cH (nU rs) (iJ (dN p.funcs)[j].params) (iJ (dN p.funcs)[j].params).length) (yW rs (dN p.funcs)[j]):=by
   unfold xV;rw[hDn];rfl
  rw[hS]at hb;generalize hq:(dN p.funcs)[j]=f at *;cases hP:cH (nU rs) (iJ f.params) (iJ f.params).length with
  |some y=>
   rw[hP]at hb;have hr:=fH (f3D hA (CN ▸ hB) (CN ▸ hC) (CN ▸ nD (show cH (xV rs) (dN p.funcs) (j+1)=some y from hb) _ (by omega)));rw[hr];simp only[hP,yp]at e3;simp[FN.cells,Is,e3,qi,aU,bG,eC.bg,mc]
  |none=>
   rw[hP]at hb;simp only[hP,yp]at e3;simp[FN.cells,Is,e3,eC.bg,mc];have KK:(dA rs (iJ f.params)).length=(iJ f.params).length:=(by simp[dA]);cases hh:f.bO with
   |false=>
    have hT:yW rs f=none:=(by unfold yW;rw[hh];rfl);rw[hT]at hb;simp only[iL,oH,hh,if_false,Bool.false_eq_true]at ha;by_cases a:f.name=Ah;have ea:(f.name=[109,97,105,110])=True:=eq_true a;by_cases b:iJ f.params=[];have l0:(iJ f.params).length=0:=(by rw[b];rfl);have hM:eO f=true:=(by simp[eO,a,b,hh]);have hi:=ih (j+1,f.cells,[.int .i64 0,.int .i64 0],[.str f.name,(bD 4 (dA rs (iJ f.params))).view,.bool f.bO,.int .i64 0,.int .i64 0,.int .i64 0],b9) ⟨by simp;omega,hb⟩ (by simp;omega);simp only[VT,hM,if_true,FN.cells,hh]at hi;simp[hw,KK,ha,ea,l0,eC.bg];simp only[Int.natCast_add,Int.natCast_one]at hi;exact hi;have l0:¬(iJ f.params).length=0:=(by simpa using b);have l1:((iJ f.params).length=0)=False:=eq_false l0;have hM:eO f=false:=(by simp[eO,a,b,hh]);have hi:=ih (j+1,f.cells,[.int .i64 0,.int .i64 0],[.str f.name,(bD 4 (dA rs (iJ f.params))).view,.bool f.bO,.int .i64 0,.int .i64 0,.int .i64 0],b9) ⟨by simp;omega,hb⟩ (by simp;omega);simp only[VT,hM,if_false,Bool.false_eq_true,FN.cells,hh]at hi;simp[hw,KK,ha,ea,l1,eC.bg];simp only[Int.natCast_add,Int.natCast_one]at hi;exact hi;have ea:(f.name=[109,97,105,110])=False:=eq_false a;have hM:eO f=false:=(by simp[eO,a,hh]);have hi:=ih (j+1,f.cells,[.int .i64 0,.int .i64 0],[.str f.name,(bD 4 (dA rs (iJ f.params))).view,.bool f.bO,.int .i64 0,.int .i64 0,.int .i64 0],b9) ⟨by simp;omega,hb⟩ (by simp;omega);simp only[VT,hM,if_false,Bool.false_eq_true,FN.cells,hh]at hi;simp[hw,ha,ea,eC.bg];simp only[Int.natCast_add,Int.natCast_one]at hi;exact hi
   |true=>
    cases ho:(bZ rs f.on f.od).2 with
    |false=>
     have hT:yW rs f=some f.at_:=(by unfold yW;rw[hh,ho];rfl);rw[hT]at hb;have hr:=fH (f3D hA (CN ▸ hB) (CN ▸ hC) (CN ▸ nD (show cH (xV rs) (dN p.funcs) (j+1)=some f.at_ from hb) _ (by omega)));rw[hr];simp[et,ho,e2,qi]
    |true=>
     have hT:yW rs f=none:=(by unfold yW;rw[hh,ho];rfl);rw[hT]at hb;simp only[iL,oH,hh,if_true]at ha;by_cases a:f.name=Ah;have ea:(f.name=[109,97,105,110])=True:=eq_true a;by_cases b:iJ f.params=[];have l0:(iJ f.params).length=0:=(by rw[b];rfl);have hM:eO f=false:=(by simp[eO,a,b,hh]);have hi:=ih (j+1,f.cells,[.int .i64 0,.int .i64 0],[.str f.name,(bD 4 (dA rs (iJ f.params))).view,.bool f.bO,.int .i64 (bZ rs f.on f.od).1.b,.int .i64 (bZ rs f.on f.od).1.r,.int .i64 (bZ rs f.on f.od).1.d],(bZ rs f.on f.od).1.cells) ⟨by simp;omega,hb⟩ (by simp;omega);simp only[VT,hM,if_false,Bool.false_eq_true,FN.cells,hh]at hi;simp[hw,KK,et,ha,ho,ea,l0,eC.bg,mc];simp only[Int.natCast_add,Int.natCast_one]at hi;exact hi;have l0:¬(iJ f.params).length=0:=(by simpa using b);have l1:((iJ f.params).length=0)=False:=eq_false l0;have hM:eO f=false:=(by simp[eO,a,b,hh]);have hi:=ih (j+1,f.cells,[.int .i64 0,.int .i64 0],[.str f.name,(bD 4 (dA rs (iJ f.params))).view,.bool f.bO,.int .i64 (bZ rs f.on f.od).1.b,.int .i64 (bZ rs f.on f.od).1.r,.int .i64 (bZ rs f.on f.od).1.d],(bZ rs f.on f.od).1.cells) ⟨by simp;omega,hb⟩ (by simp;omega);simp only[VT,hM,if_false,Bool.false_eq_true,FN.cells,hh]at hi;simp[hw,KK,et,ha,ho,ea,l1,eC.bg,mc];simp only[Int.natCast_add,Int.natCast_one]at hi;exact hi;have ea:(f.name=[109,97,105,110])=False:=eq_false a;have hM:eO f=false:=(by simp[eO,a,hh]);have hi:=ih (j+1,f.cells,[.int .i64 0,.int .i64 0],[.str f.name,(bD 4 (dA rs (iJ f.params))).view,.bool f.bO,.int .i64 (bZ rs f.on f.od).1.b,.int .i64 (bZ rs f.on f.od).1.r,.int .i64 (bZ rs f.on f.od).1.d],(bZ rs f.on f.od).1.cells) ⟨by simp;omega,hb⟩ (by simp;omega);simp only[VT,hM,if_false,Bool.false_eq_true,FN.cells,hh]at hi;simp[hw,et,ha,ho,ea,eC.bg,mc];simp only[Int.natCast_add,Int.natCast_one]at hi;exact hi
  have eK:k=(dN p.funcs).length:=by omega
  subst eK;have X1:rS (dN p.funcs) (dN p.funcs).length=tK (dN p.funcs):=main_eq λk hk=>by
   have:=ES hD k hk hk;exact(L5 (L5 this).1).1
  have h3:=f3D hA (CN ▸ hB) (CN ▸ hC) (CN ▸ hD);by_cases hm:tK (dN p.funcs)<0;have hr:yY p=.fm [qi,.agg [.int .i64 3,.int .i64 0]]:=by
   have:iS p=some 0:=by unfold iS;rw[if_pos hm,h3];rfl
   unfold yY;rw[this];rfl
  rw[hr];simp[f1,f2,f3,X1,hm,e2,qi];have hr:yY p=.fm [wF p,.agg [.int .i64 0,.int .i64 0]]:=by
   have:iS p=none:=by unfold iS;rw[if_neg hm,h3]
   unfold yY;rw[this];rfl
  rw[hr];simp[f1,f2,f3,X1,hm,wF,<-CN,<-hGG,hGv,<-hRR,hGs,hRs]
end U7
