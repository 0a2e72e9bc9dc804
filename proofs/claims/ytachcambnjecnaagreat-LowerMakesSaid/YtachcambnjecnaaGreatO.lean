/- Part of a proof. -/
import Derived.Test.YtachcambnjecnaaGreatM

set_option maxRecDepth 100000
set_option maxHeartbeats 4000000
namespace U7
open Ax Go bu V7
theorem EW(wl af:Nat)(l:AV)(s:List UInt8)(d:Int)(st:aj)(hl:qj l=true)(hn:(eu l).length<1000000000) :
  (bh S).call wl af 89 [l,.agg [.str s,.int .i64 d]] st=some (.fm [.agg (bZ (eu l) s d).1.cells,.bool (bZ (eu l) s d).2],st):=by
 have h1:=xB hl;have h2:=wo hl;have h3:=JF hl;refine bN (sf:=Zv) rfl rfl (by simp[ck h1]) rfl (by simp[AV.ax,AV.ai]) ?_;by_cases d0:d<0;rw[CP (.inl d0)];simp[Zv,d0];by_cases d3:3<d;rw[CP (.inr d3)];simp[Zv,d0,d3];have hd:¬(d<0\/3<d):=by omega
 unfold bZ;rw[if_neg hd];by_cases i1:s=[105,110,116];simp[Zv,d0,d3,i1];by_cases i2:s=[98,111,111,108];simp[Zv,d0,d3,i2];rw[if_neg i1,if_neg i2];simp[Zv,d0,d3,i1,i2];refine bf R6.eq_1 (λk:Nat=>⟨[(0,.val l),(3,.fp 0 0),(4,.fp 1 0),(6,.val (.int .i64 k))],[[.str s,.int .i64 d],[.int .i64 0,.int .i64 0,.int .i64 0]],[]⟩)
  (λk=>k<=(eu l).length/\Co (λx=>decide (x=s)) (eu l) k) (λk=>(eu l).length-k) 0 (by simp) ⟨by simp,qP⟩ ?_
 rintro k ⟨hk,hp⟩ ih;by_cases aX:k<(eu l).length;have hw:=wk k (by omega);by_cases e:(eu l)[k]=s;have hi:=HN hp aX e;have h0:¬((k:Int)<0):=by omega
 simp[hl,h2,h3,aX,e,hi,h0,au,an];simp[hl,h2,h3,aX,e,hw,au,an];exact ih (k+1) ⟨by omega,qQ hp aX (by simpa using e)⟩ (by omega);have eL:k=(eu l).length:=by omega
 have hi:=A5 (eL ▸ hp);simp[hl,h2,h3,aX,hi]
theorem CV(wl af:Nat)(t:T3)(st:aj):(bh S).call wl af 34 [.agg t.cells] st=some (.bool (nK t),st):=by
 refine bN (sf:=s34) rfl rfl (by simp) rfl (by simp) ?_;unfold nK;by_cases b:t.b=3;simp[s34,b];simp[s34,b]
end U7
namespace U7
open Ax Go bu V7
theorem AE(wl af:Nat)(a:Int)(st:aj):(bh S).call wl af 87 [.int .i64 a] st=some (.agg [.int .i64 3,.int .i64 a],st):=by
 refine bN (sf:=s87) rfl rfl (by simp) rfl (by simp) ?_;simp[s87]
theorem Kg(wl af:Nat)(p:GD)(st:aj)(hp:p.ok)(hn:(cj p.aS).length<1000000000):(bh S).call wl af 50 [.agg p.cells] st=some (bD 1 (ga (iK (cj p.aS))),st):=by
 have p1:=CL hp.aS;have p2:=zT hp.aS;have p3:=D8 hp.aS;have g1:=sW hp.globals;have g2:=pC hp.globals;have f1:=CM hp.funcs;have f2:=zU hp.funcs;have hpr:=hp.aS;refine bN (sf:=s50) rfl rfl (by simp[GD.cells,AV.ai,AV.ax,p1,g1,f1]) rfl (by simp) ?_;simp[s50,GD.cells,p1,g1,f1];refine bf RG.eq_1 (λk:Nat=>⟨[(1,.fp 0 0),(3,.val (bD 1 (ga (iK ((cj p.aS).take k))))),(4,.val (.int .i64 k))],[[p.aS,p.globals,p.funcs]],[]⟩)
  (λk=>k<=(cj p.aS).length) (λk=>(cj p.aS).length-k) 0 (by simp[iK,ga,jB]) (by simp) ?_
 intro k hk ih;by_cases aX:k<(cj p.aS).length;have hw:=wk k (by omega);have ha:nI 1 16 (bD 1 (ga (iK ((cj p.aS).take k)))) [[.str (cj p.aS)[k].name]]=some (bD 1 (ga (iK ((cj p.aS).take (k+1))))):=by
  rw[dV (by rfl) (by simp[ga,iK,cT];omega)];simp only[iK,ga,List.take_succ_eq_append_getElem aX,List.map_append,List.map_cons,List.map_nil]
 simp[p2,p3,hpr,aX,CR.cells,hw,ha];exact ih (k+1) (by omega) (by omega);have eL:k=(cj p.aS).length:=by omega
 subst eL;simp[p1,p2,p3]
def Wz(o:Bool)(l:List PD)(s:List UInt8)(j:Nat):Bool:=o && !((l.take j).any λq=>decide (q.name=s))
theorem Tx{o:Bool}{l:List PD}{s:List UInt8}{j:Nat}(h:j<l.length):Wz o l s (j+1)=(Wz o l s j && !decide (l[j].name=s)):=by
 unfold Wz;rw[List.take_succ_eq_append_getElem h,List.any_append];simp[Bool.and_assoc]
def rfV(rs:List (List UInt8))(l:List PD):AV:=.fm [match cI (nU rs) l l.length with|some _=>.U|none=>bD 4 (dF rs l),.agg (yu (cI (nU rs) l l.length))]
theorem nE{α:Type}{vC:List α->α->Option Int}{l:List α}{k:Nat}{y:Int}(h:cI vC l k=some y):∀m,k<=m->cI vC l m=some y:=by
 intro m hm;induction m with
 |zero=>
  have:k=0:=by omega
  subst this;exact h
 |succ m ih=>
  by_cases e:k=m+1;subst e;exact h;show wu (cI vC l m) _=some y;rw[ih (by omega)];rfl
theorem zb(wl af:Nat)(l rl:AV)(st:aj)(hl:qj rl=true)(hn:(eu rl).length<1000000000)(hp:A6 l=true)(hpn:(iJ l).length<1000000000) :
  (bh S).call wl af 88 [rl,l] st=some (rfV (eu rl) (iJ l),st):=by
 have h1:=xB hl;have h2:=wo hl;have p1:=sW hp;have p2:=pC hp;have p3:=Nj hp;have e1:=λwl af s d st=>EW wl af rl s d st hl hn;have e2:=λwl af a st=>AE wl af a st;simp only[T3.cells]at e1;refine bN (sf:=s88) rfl rfl (by simp[ck h1,ck p1]) rfl (by cases h:cI (nU (eu rl)) (iJ l) (iJ l).length<;>simp[rfV,h,yu,AV.ax,AV.ai]) ?_;simp[s88];refine bf R5.eq_1 (λq:Nat×List AV=>⟨[(0,.val rl),(1,.val l),(5,.fp 0 0),(6,.val (bD 4 (dF (eu rl) ((iJ l).take q.1)))),(7,.val (.int .i64 q.1))],[[.int .i64 0,.int .i64 0],q.2],[]⟩)
  (λq=>q.1<=(iJ l).length/\cI (nU (eu rl)) (iJ l) q.1=none) (λq=>(iJ l).length-q.1) ((0,[]):Nat×List AV) (by simp[dF,jB]) ⟨by simp,rfl⟩ ?_
 rintro⟨k,bb⟩ ⟨hk,hf⟩ ih;simp only at hk hf ih;by_cases aX:k<(iJ l).length;have hw:=wk k (by omega);have hb:=ko (vC:=nU (eu rl)) aX;rw[hf]at hb;have hr:=Ai (rs:=eu rl) aX;have hlen:(dF (eu rl) ((iJ l).take k)).length=k:=by simp[dF];omega
 have ha:nI 4 40 (bD 4 (dF (eu rl) ((iJ l).take k))) [A8 (eu rl) (iJ l)[k]]=some (bD 4 (dF (eu rl) ((iJ l).take (k+1)))):=by
  rw[dV (by rfl) (by rw[hlen];simp[cT];omega),hr]
 generalize hq:(iJ l)[k]=p at *;simp only[A8,T3.cells]at ha;obtain⟨o,ho⟩:∃o,o=(bZ (eu rl) p.on p.od).2:=⟨_,rfl⟩;simp[h2,p2,p3,hp,aX,PD.cells,hq,e1];refine bf R4.eq_1 (λj:Nat=>⟨[(0,.val rl),(1,.val l),(5,.fp 0 0),(6,.val (bD 4 (dF (eu rl) ((iJ l).take k)))),(7,.val (.int .i64 k)),(8,.fp 1 0),(9,.val (.bool (Wz o (iJ l) p.name j))),(10,.val (.int .i64 j))],
   [[.int .i64 0,.int .i64 0],(bZ (eu rl) p.on p.od).1.cells],[]⟩)
  (λj=>j<=k) (λj=>k-j) 0 (by simp[Wz,ho]) (by simp) ?_
 intro j hj k8;by_cases tX:j<k;have BO:=wk j (by omega);have xm:j<(iJ l).length:=by omega
 have hs:=Tx (o:=o) (s:=p.name) xm;have Ko:=k8 (j+1) (by omega) (by omega);rw[hs]at Ko;cases Pz:Wz o (iJ l) p.name j with
 |false=>
  rw[Pz]at Ko;simp[tX,BO,au,an];simp only[Bool.false_and]at Ko;exact Ko
 |true=>
  rw[Pz]at Ko;by_cases Kq:(iJ l)[j].name=p.name;simp[p2,p3,hp,tX,xm,aX,PD.cells,BO,hq,Kq,au,an];simp only[Kq,decide_true,Bool.not_true,Bool.and_false]at Ko;exact Ko;simp[p2,p3,hp,tX,xm,aX,PD.cells,BO,hq,Kq,au,an];simp only[decide_eq_false Kq,Bool.not_false,Bool.and_true]at Ko;exact Ko
 have D2:j=k:=by omega
 subst D2;simp;cases Pz:Wz o (iJ l) p.name j with
 |true=>
  have uM:nU (eu rl) ((iJ l).take j) p=none:=by
   simp only[Wz,Bool.and_eq_true,Bool.not_eq_true',ho]at Pz;unfold nU;rw[Pz.2,Pz.1];rfl
  rw[uM]at hb;simp[p2,p3,hp,aX,PD.cells,hw,hq,ha,au,an];exact ih (j+1,_) ⟨by simp;omega,hb⟩ (by simp;omega)
 |false=>
  have uM:nU (eu rl) ((iJ l).take j) p=some p.at_:=by
   unfold nU;rw[if_pos];simp only[Wz,Bool.and_eq_false_iff,Bool.not_eq_false',ho]at Pz;rcases Pz with h|h;rw[h];simp;rw[h];rfl
  rw[uM]at hb;have Oq:=nE (show cI (nU (eu rl)) (iJ l) (j+1)=some p.at_ from hb) (iJ l).length (by omega);simp[p3,hp,aX,PD.cells,hq,e2,rfV,Oq,yu]
 have eL:k=(iJ l).length:=by omega
 subst eL;simp[p1,p2,p3,rfV,hf,yu]
end U7
namespace U7
open Ax Go bu V7
def rT(l:List FN):Nat->Int
 |0=>-1|k+1=>match l[k]? with
  |some x=>if eP x then (k:Int) else rT l k
  |none=>rT l k
theorem Mb{a b:Option Int}(h:wu a b=none):a=none/\b=none:=by
 cases a with
 |none=>exact⟨rfl,h⟩|some x=>cases h
theorem EY{α:Type}{vC:List α->α->Option Int}{l:List α}:∀{m:Nat},cI vC l m=none->∀k (h:k<l.length),k<m->vC (l.take k) l[k]=none
 |0,_,k,_,hk=>absurd hk (by omega)|m+1,h,k,hl,hk=>by
  obtain⟨h1,h2⟩:=Mb h;by_cases e:k=m;subst e;rw[List.getElem?_eq_getElem hl]at h2;exact h2;exact EY h1 k hl (by omega)
theorem B7{x:FN}(h:eP x=true):x.name=Aj:=by
 simp only[eP,Bool.and_eq_true,decide_eq_true_eq]at h;exact h.1.1
theorem zd{l:List FN}(h:∀k (hk:k<l.length),eP l[k]=false):∀m,rT l m = -1
 |0=>rfl|m+1=>by
  unfold rT;by_cases hm:m<l.length;rw[List.getElem?_eq_getElem hm];simp[h m hm,zd h m];rw[List.getElem?_eq_none (by omega)];exact zd h m
theorem EZ{l:List FN}{j:Nat}(hj:j<l.length)(hm:eP l[j]=true)(h1:∀k (hk:k<l.length),k<j->eP l[k]=false)(h2:∀k (hk:k<l.length),j<k->eP l[k]=false):∀m,rT l m=if j<m then (j:Int) else -1
 |0=>by simp[rT]|m+1=>by
  have ih:=EZ hj hm h1 h2 m;unfold rT;by_cases hml:m<l.length;rw[List.getElem?_eq_getElem hml];dsimp only;by_cases e:m=j;subst e;rw[if_pos hm,if_pos (by omega)];have hf:eP l[m]=false:=by
   rcases Nat.lt_or_gt_of_ne e with h|h;exact h1 m hml h;exact h2 m hml h
  rw[if_neg (by rw[hf];simp),ih];by_cases hjm:j<m;rw[if_pos hjm,if_pos (by omega)];rw[if_neg hjm,if_neg (by omega)];rw[List.getElem?_eq_none (by omega)];dsimp only;rw[ih,if_pos (by omega),if_pos (by omega)]
theorem main_eq{l:List FN}(h:∀k (hk:k<l.length),JU (l.take k) l[k]=none):rT l l.length=tM l:=by
 unfold tM;cases e:l.findIdx? eP with
 |none=>
  rw[List.findIdx?_eq_none_iff]at e;exact zd (λk hk=>e _ (List.getElem_mem hk)) _
 |some j=>
  obtain⟨hj,h1,h2⟩:=List.findIdx?_eq_some_iff_getElem.1 e;rw[EZ hj h1 (λk hk hkj=>by simpa using h2 k hkj) (λk hk tX=>?_),if_pos hj];cases hb:eP l[k] with
  |false=>rfl|true=>
   have:=h k hk;unfold JU at this;rw[if_pos]at this;cases this;rw[List.any_eq_true];refine⟨l[j],?_,?_⟩;exact List.mem_take_iff_getElem.2 ⟨j,by omega,rfl⟩;rw[B7 h1,B7 hb];simp
theorem Kh{α:Type}{p:α->Bool}{l:List α}{k:Nat}(h:Co p (l.take k) k):(l.take k).any p=false:=by
 rw[List.any_eq_false];intro q hq;obtain⟨i,hi,rfl⟩:=List.mem_iff_getElem.1 hq;have:=h i hi (by simp at hi;omega);rw[this];simp
theorem fH{p:GD}{y:Int}(h:lY p=some y):y7 p=.fm [qm,.agg [.int .i64 3,.int .i64 y]]:=by
 have:iS p=some y:=by unfold iS;rw[h];split<;>rfl
 unfold y7;rw[this];rfl
theorem f3A{p:GD}{y:Int}(h:cI tL (cj p.aS) (cj p.aS).length=some y):lY p=some y:=by unfold lY;rw[h];rfl
theorem f3B{p:GD}{y:Int}(a:cI tL (cj p.aS) (cj p.aS).length=none)(h:cI (yX (iK (cj p.aS))) (cj p.aS) (cj p.aS).length=some y):lY p=some y:=by unfold lY;rw[a,h];rfl
theorem f3C{p:GD}{y:Int}(a:cI tL (cj p.aS) (cj p.aS).length=none)(b:cI (yX (iK (cj p.aS))) (cj p.aS) (cj p.aS).length=none)
  (h:cI (nU (iK (cj p.aS))) (iJ p.globals) (iJ p.globals).length=some y):lY p=some y:=by unfold lY;rw[a,b,h];rfl
theorem f3D{p:GD}{y:Option Int}(a:cI tL (cj p.aS) (cj p.aS).length=none)(b:cI (yX (iK (cj p.aS))) (cj p.aS) (cj p.aS).length=none)
  (c:cI (nU (iK (cj p.aS))) (iJ p.globals) (iJ p.globals).length=none)(h:cI (xX (iK (cj p.aS))) (dN p.funcs) (dN p.funcs).length=y):lY p=y:=by unfold lY;rw[a,b,c,h];rfl
theorem Tz(wl af:Nat)(p:GD)(st:aj)(hp:p.ok)(hs:GD.sm p):(bh S).call wl af 49 [.agg p.cells] st=some (y7 p,st):=by
 have p1:=CL hp.aS;have p2:=zT hp.aS;have p3:=D8 hp.aS;have pr:=hp.aS;have g1:=sW hp.globals;have g2:=pC hp.globals;have f1:=CM hp.funcs;have f2:=zU hp.funcs;have f3:=JG hp.funcs;have fr:=hp.funcs;have en:=λwl af st=>Kg wl af p st hp hs.aS;have e2:=λwl af a st=>AE wl af a st;simp only[GD.cells]at en;obtain⟨rs,CQ⟩:∃rs,rs=iK (cj p.aS):=⟨_,rfl⟩;have OW:rs.length=(cj p.aS).length:=by rw[CQ];simp[iK]
 have hrk:∀k (h:k<rs.length) (h2:k<(cj p.aS).length),rs[k]=(cj p.aS)[k].name:=by intro k h h2;subst CQ;simp[iK]
 have n1:aD (bD 1 (ga rs))=true:=bY;have n2:=wG rs;have n3:aM (bD 1 (ga rs))=rs.map λs=>[.str s]:=pQ;have n4:eu (bD 1 (ga rs))=rs:=sF rs;have n5:bX 1 (bD 1 (ga rs))=true:=by simpa using Nh n2
 rw[<-CQ]at en;generalize bD 1 (ga rs)=nl at *;have alk:=hs.aS;have ajP:=hs.funcs;refine bN (sf:=s49) rfl rfl (by simp[GD.cells,AV.ai,AV.ax,p1,g1,f1]) rfl (by cases h:iS p<;>simp[y7,h,qm,wH,AV.ax,AV.ai]) ?_;simp[s49,GD.cells,p1,p2,g1,g2,f1,f2,en];refine bf RA.eq_1 (λk:Nat=>⟨[(1,.fp 0 0),(2,.fp 1 0),(3,.fp 2 0),(4,.val nl),(5,.val (.int .i64 k))],
   [[p.aS,p.globals,p.funcs],[.U,.U,.U,.int .i64 0],[.int .i64 0,.int .i64 0],[],[],[],[],[],[],[]],[]⟩)
  (λk=>k<=(cj p.aS).length/\cI tL (cj p.aS) k=none) (λk=>(cj p.aS).length-k) 0 (by simp) ⟨by simp,rfl⟩ ?_
 intro k ⟨hk,hA⟩ ih;by_cases aX:k<(cj p.aS).length;have hw:=wk k (by omega);have hb:=ko (vC:=tL) aX;rw[hA]at hb;have KD:k<rs.length:=by omega
 simp[n1,n3,OW,aX];refine bf Rz.eq_1 (λj:Nat=>⟨[(1,.fp 0 0),(2,.fp 1 0),(3,.fp 2 0),(4,.val nl),(5,.val (.int .i64 k)),(6,.val (.int .i64 j))],
   [[p.aS,p.globals,p.funcs],[.U,.U,.U,.int .i64 0],[.int .i64 0,.int .i64 0],[],[],[],[],[],[],[]],[]⟩)
  (λj=>j<=k/\Co (λq:CR=>decide (q.name=(cj p.aS)[k].name)) ((cj p.aS).take k) j) (λj=>k-j) 0 (by simp) ⟨by simp,qP⟩ ?_
 intro j ⟨hj,hn⟩ k8;by_cases tX:j<k;have BO:=wk j (by omega);have XM:j<rs.length:=by omega
 have xm:j<(cj p.aS).length:=by omega
 have e1:=hrk j XM xm;have e3:=hrk k KD aX;have Ol:j<((cj p.aS).take k).length:=by simp;omega
 have hjg:((cj p.aS).take k)[j]=(cj p.aS)[j]:=List.getElem_take;by_cases Kq:(cj p.aS)[j].name=(cj p.aS)[k].name;have uM:tL ((cj p.aS).take k) (cj p.aS)[k]=some (cj p.aS)[k].at_:=by
  unfold tL;rw[if_pos];exact List.any_eq_true.2 ⟨_,List.getElem_mem Ol,by rw[hjg];simpa using Kq⟩
 rw[uM]at hb;have hr:=fH (f3A (nE (show cI tL (cj p.aS) (k+1)=some _ from hb) _ (by omega)));rw[hr];simp[n3,n5,XM,KD,tX,e1,e3,Kq,p2,p3,pr,aX,CR.cells,e2,qm,au,an];simp[n3,n5,XM,KD,tX,e1,e3,Kq,BO,au,an];exact k8 (j+1) ⟨by omega,qQ hn Ol (by rw[hjg];simpa using Kq)⟩ (by omega);have D2:j=k:=by omega
 subst D2;have uM:tL ((cj p.aS).take j) (cj p.aS)[j]=none:=by
  unfold tL;rw[Kh hn];rfl
 rw[uM]at hb;simp[hw];exact ih (j+1) ⟨by omega,hb⟩ (by omega);have eL:k=(cj p.aS).length:=by omega
 subst eL;simp[n1,n3,OW];refine bf RB.eq_1 (λq:Nat×List AV=>⟨[(1,.fp 0 0),(2,.fp 1 0),(3,.fp 2 0),(4,.val nl),(7,.fp 3 0),(8,.val (.int .i64 q.1))],
   [[p.aS,p.globals,p.funcs],[.U,.U,.U,.int .i64 0],[.int .i64 0,.int .i64 0],[bD 2 (jC rs ((cj p.aS).take q.1)),.U,.U,.int .i64 (-1)],q.2,[],[],[],[],[]],[]⟩)
  (λq=>q.1<=(cj p.aS).length/\cI (yX rs) (cj p.aS) q.1=none) (λq=>(cj p.aS).length-q.1) ((0,[]):Nat×List AV) (by simp[jC,jB]) ⟨by simp,rfl⟩ ?_
 rintro⟨k,bb⟩ ⟨hk,hB⟩ ih;simp only at hk hB ih;by_cases aX:k<(cj p.aS).length;have hw:=wk k (by omega);have hb:=ko (vC:=yX rs) aX;rw[hB]at hb;have KD:k<rs.length:=by omega
 have e1:=hrk k KD aX;have hF:=A7 hp.aS _ (List.getElem_mem aX);have OT:=sW hF;have Iw:=pC hF;have hFn:=hs.cQ _ (List.getElem_mem aX);have e3:=λwl af st=>zb wl af (cj p.aS)[k].cQ nl.view st n2 (by rw[mj,n4];omega) hF hFn;simp only[mj,n4,rfV]at e3;have ha:nI 2 40 (bD 2 (jC rs ((cj p.aS).take k))) [Bc rs (cj p.aS)[k]]=some (bD 2 (jC rs ((cj p.aS).take (k+1)))):=by
  rw[dV (by rfl) (by simp[jC,cT];omega)];simp only[jC,List.take_succ_eq_append_getElem aX,List.map_append,List.map_cons,List.map_nil]
 simp only[Bc]at ha;cases hf:yX rs ((cj p.aS).take k) (cj p.aS)[k] with
 |some y=>
  rw[hf]at hb;have hr:=fH (f3B hA (CQ ▸ nE (show cI (yX rs) (cj p.aS) (k+1)=some _ from hb) _ (by omega)));rw[hr];simp only[yX]at hf;simp only[hf,yu]at e3;simp[p2,p3,pr,aX,CR.cells,Iw,e3,qm,aV,bG,eE.bg,mc]
 |none=>
  rw[hf]at hb;simp only[yX]at hf;simp only[hf,yu]at e3;simp[p2,p3,pr,aX,CR.cells,Iw,n3,n5,KD,e1,e3,hw,ha,aV,bG,eE.bg,mc];exact ih (k+1,_) ⟨by simp;omega,hb⟩ (by simp;omega)
 have eL:k=(cj p.aS).length:=by omega
 subst eL;have eg:=λwl af st=>zb wl af p.globals nl.view st n2 (by rw[mj,n4];omega) hp.globals hs.globals;simp only[mj,n4,rfV]at eg;cases hC:cI (nU rs) (iJ p.globals) (iJ p.globals).length with
 |some y=>
  have hr:=fH (f3C hA (CQ ▸ hB) (CQ ▸ hC));rw[hr];simp only[hC,yu]at eg;simp[p1,p2,p3,g2,eg,qm,aV,bG,eE.bg,mc]
 |none=>
  simp only[hC,yu]at eg;simp[p1,p2,p3,g2,eg,eE.bg,mc];obtain⟨RR,hRR⟩:∃v,v=bD 2 (jC rs (cj p.aS)):=⟨_,rfl⟩;obtain⟨GG,hGG⟩:∃v,v=(bD 4 (dF rs (iJ p.globals))).view:=⟨_,rfl⟩;rw[<-hRR,<-hGG];have hGs:aD GG=true:=by rw[hGG];simp
  have hGv:GG.view=GG:=by rw[hGG];exact oM _
  have hRs:aD RR=true:=by rw[hRR];simp
  refine bf RD.eq_1 (λq:Nat×List AV×List AV×List AV×List AV=>⟨[(1,.fp 0 0),(2,.fp 1 0),(3,.fp 2 0),(4,.val nl),(7,.fp 3 0),(13,.val (.int .i64 q.1))],
    [[p.aS,p.globals,p.funcs],[.U,.U,.U,.int .i64 0],[.int .i64 0,.int .i64 0],[RR,GG,bD 6 (fO rs ((dN p.funcs).take q.1)),.int .i64 (rT (dN p.funcs) q.1)],bb,[.int .i64 0,.int .i64 0],q.2.1,q.2.2.1,q.2.2.2.1,q.2.2.2.2],[]⟩)
   (λq=>q.1<=(dN p.funcs).length/\cI (xX rs) (dN p.funcs) q.1=none) (λq=>(dN p.funcs).length-q.1) ((0,[],[],[],[]):Nat×List AV×List AV×List AV×List AV) (by simp[fO,jB,rT]) ⟨by simp,rfl⟩ ?_
  rintro⟨k,b6,b7,b8,b9⟩ ⟨hk,hD⟩ ih;simp only at hk hD ih;by_cases aX:k<(dN p.funcs).length;have hw:=wk k (by omega);have hb:=ko (vC:=xX rs) aX;rw[hD]at hb;have hG:=Gm hp.funcs _ (List.getElem_mem aX);have hG1:=hG.1;have OT:=sW hG.1;have Iw:=pC hG.1;have JV:=hG.2.2;have XP:=wm hG.2.1 hG.2.2;have hFn:=hs.params _ (List.getElem_mem aX);have e3:=λwl af st=>zb wl af (dN p.funcs)[k].params nl.view st n2 (by rw[mj,n4];omega) hG.1 hFn;have et:=λwl af st=>EW wl af nl.view (dN p.funcs)[k].on (dN p.funcs)[k].od st n2 (by rw[mj,n4];omega);simp only[mj,n4,rfV,T3.cells]at e3 et;have ha:nI 6 72 (bD 6 (fO rs ((dN p.funcs).take k))) [iL rs (dN p.funcs)[k]]=some (bD 6 (fO rs ((dN p.funcs).take (k+1)))):=by
   rw[dV (by rfl) (by simp[fO,cT];omega)];simp only[fO,List.take_succ_eq_append_getElem aX,List.map_append,List.map_cons,List.map_nil]
  have VY:rT (dN p.funcs) (k+1)=if eP (dN p.funcs)[k] then (k:Int) else rT (dN p.funcs) k:=by simp[rT,aX]
  have ano:aD (bD 6 (fO rs ((dN p.funcs).take k)))=true:=bY;simp[f2,f3,fr,aX,FN.cells,hG1,JV,XP,Iw];refine bf RC.eq_1 (λj:Nat=>⟨[(1,.fp 0 0),(2,.fp 1 0),(3,.fp 2 0),(4,.val nl),(7,.fp 3 0),(13,.val (.int .i64 k)),(14,.fp 6 0),(15,.val (.int .i64 j))],
    [[p.aS,p.globals,p.funcs],[.U,.U,.U,.int .i64 0],[.int .i64 0,.int .i64 0],[RR,GG,bD 6 (fO rs ((dN p.funcs).take k)),.int .i64 (rT (dN p.funcs) k)],bb,[.int .i64 0,.int .i64 0],(dN p.funcs)[k].cells,b7,b8,b9],[]⟩)
   (λj=>j<=k/\Co (λq:FN=>decide (q.name=(dN p.funcs)[k].name)) ((dN p.funcs).take k) j) (λj=>k-j) 0 (by simp[FN.cells]) ⟨by simp,qP⟩ ?_
  intro j ⟨hj,hn⟩ k8;by_cases tX:j<k;have BO:=wk j (by omega);have xm:j<(dN p.funcs).length:=by omega
  have Ol:j<((dN p.funcs).take k).length:=by simp;omega
  have hjg:((dN p.funcs).take k)[j]=(dN p.funcs)[j]:=List.getElem_take;by_cases Kq:(dN p.funcs)[j].name=(dN p.funcs)[k].name;have uM:xX rs ((dN p.funcs).take k) (dN p.funcs)[k]=some (dN p.funcs)[k].at_:=by
   unfold xX JU;rw[if_pos]
   rfl
   exact List.any_eq_true.2 ⟨_,List.getElem_mem Ol,by rw[hjg];simpa using Kq⟩
  rw[uM]at hb;have hr:=fH (f3D hA (CQ ▸ hB) (CQ ▸ hC) (CQ ▸ nE (show cI (xX rs) (dN p.funcs) (k+1)=some _ from hb) _ (by omega)));rw[hr];simp[f2,f3,fr,tX,xm,FN.cells,Kq,e2,qm,au,an];simp[f2,f3,fr,tX,xm,FN.cells,Kq,BO,au,an];exact k8 (j+1) ⟨by omega,qQ hn Ol (by rw[hjg];simpa using Kq)⟩ (by omega);have D2:j=k:=by omega
  subst D2;have hDn:JU ((dN p.funcs).take j) (dN p.funcs)[j]=none:=by
   unfold JU;rw[Kh hn];rfl
  have hS:xX rs ((dN p.funcs).take j) (dN p.funcs)[j]=wu (cI (nU rs) (iJ (dN p.funcs)[j].params) (iJ (dN p.funcs)[j].params).length) (yY rs (dN p.funcs)[j]):=by
   unfold xX;rw[hDn];rfl
  rw[hS]at hb;generalize hq:(dN p.funcs)[j]=f at *;cases hP:cI (nU rs) (iJ f.params) (iJ f.params).length with
  |some y=>
   rw[hP]at hb;have hr:=fH (f3D hA (CQ ▸ hB) (CQ ▸ hC) (CQ ▸ nE (show cI (xX rs) (dN p.funcs) (j+1)=some y from hb) _ (by omega)));rw[hr];simp only[hP,yu]at e3;simp[FN.cells,Iw,e3,qm,aV,bG,eE.bg,mc]
  |none=>
   rw[hP]at hb;simp only[hP,yu]at e3;simp[FN.cells,Iw,e3,eE.bg,mc];have KO:(dF rs (iJ f.params)).length=(iJ f.params).length:=(by simp[dF]);cases hh:f.bP with
   |false=>
    have hT:yY rs f=none:=(by unfold yY;rw[hh];rfl);rw[hT]at hb;simp only[iL,oJ,hh,if_false,Bool.false_eq_true]at ha;by_cases a:f.name=Aj;have ea:(f.name=[109,97,105,110])=True:=eq_true a;by_cases b:iJ f.params=[];have l0:(iJ f.params).length=0:=(by rw[b];rfl);have hM:eP f=true:=(by simp[eP,a,b,hh]);have hi:=ih (j+1,f.cells,[.int .i64 0,.int .i64 0],[.str f.name,(bD 4 (dF rs (iJ f.params))).view,.bool f.bP,.int .i64 0,.int .i64 0,.int .i64 0],b9) ⟨by simp;omega,hb⟩ (by simp;omega);simp only[VY,hM,if_true,FN.cells,hh]at hi;simp[hw,KO,ha,ea,l0,eE.bg];simp only[Int.natCast_add,Int.natCast_one]at hi;exact hi;have l0:¬(iJ f.params).length=0:=(by simpa using b);have l1:((iJ f.params).length=0)=False:=eq_false l0;have hM:eP f=false:=(by simp[eP,a,b,hh]);have hi:=ih (j+1,f.cells,[.int .i64 0,.int .i64 0],[.str f.name,(bD 4 (dF rs (iJ f.params))).view,.bool f.bP,.int .i64 0,.int .i64 0,.int .i64 0],b9) ⟨by simp;omega,hb⟩ (by simp;omega);simp only[VY,hM,if_false,Bool.false_eq_true,FN.cells,hh]at hi;simp[hw,KO,ha,ea,l1,eE.bg];simp only[Int.natCast_add,Int.natCast_one]at hi;exact hi;have ea:(f.name=[109,97,105,110])=False:=eq_false a;have hM:eP f=false:=(by simp[eP,a,hh]);have hi:=ih (j+1,f.cells,[.int .i64 0,.int .i64 0],[.str f.name,(bD 4 (dF rs (iJ f.params))).view,.bool f.bP,.int .i64 0,.int .i64 0,.int .i64 0],b9) ⟨by simp;omega,hb⟩ (by simp;omega);simp only[VY,hM,if_false,Bool.false_eq_true,FN.cells,hh]at hi;simp[hw,ha,ea,eE.bg];simp only[Int.natCast_add,Int.natCast_one]at hi;exact hi
   |true=>
    cases ho:(bZ rs f.on f.od).2 with
    |false=>
     have hT:yY rs f=some f.at_:=(by unfold yY;rw[hh,ho];rfl);rw[hT]at hb;have hr:=fH (f3D hA (CQ ▸ hB) (CQ ▸ hC) (CQ ▸ nE (show cI (xX rs) (dN p.funcs) (j+1)=some f.at_ from hb) _ (by omega)));rw[hr];simp[et,ho,e2,qm]
    |true=>
     have hT:yY rs f=none:=(by unfold yY;rw[hh,ho];rfl);rw[hT]at hb;simp only[iL,oJ,hh,if_true]at ha;by_cases a:f.name=Aj;have ea:(f.name=[109,97,105,110])=True:=eq_true a;by_cases b:iJ f.params=[];have l0:(iJ f.params).length=0:=(by rw[b];rfl);have hM:eP f=false:=(by simp[eP,a,b,hh]);have hi:=ih (j+1,f.cells,[.int .i64 0,.int .i64 0],[.str f.name,(bD 4 (dF rs (iJ f.params))).view,.bool f.bP,.int .i64 (bZ rs f.on f.od).1.b,.int .i64 (bZ rs f.on f.od).1.r,.int .i64 (bZ rs f.on f.od).1.d],(bZ rs f.on f.od).1.cells) ⟨by simp;omega,hb⟩ (by simp;omega);simp only[VY,hM,if_false,Bool.false_eq_true,FN.cells,hh]at hi;simp[hw,KO,et,ha,ho,ea,l0,eE.bg,mc];simp only[Int.natCast_add,Int.natCast_one]at hi;exact hi;have l0:¬(iJ f.params).length=0:=(by simpa using b);have l1:((iJ f.params).length=0)=False:=eq_false l0;have hM:eP f=false:=(by simp[eP,a,b,hh]);have hi:=ih (j+1,f.cells,[.int .i64 0,.int .i64 0],[.str f.name,(bD 4 (dF rs (iJ f.params))).view,.bool f.bP,.int .i64 (bZ rs f.on f.od).1.b,.int .i64 (bZ rs f.on f.od).1.r,.int .i64 (bZ rs f.on f.od).1.d],(bZ rs f.on f.od).1.cells) ⟨by simp;omega,hb⟩ (by simp;omega);simp only[VY,hM,if_false,Bool.false_eq_true,FN.cells,hh]at hi;simp[hw,KO,et,ha,ho,ea,l1,eE.bg,mc];simp only[Int.natCast_add,Int.natCast_one]at hi;exact hi;have ea:(f.name=[109,97,105,110])=False:=eq_false a;have hM:eP f=false:=(by simp[eP,a,hh]);have hi:=ih (j+1,f.cells,[.int .i64 0,.int .i64 0],[.str f.name,(bD 4 (dF rs (iJ f.params))).view,.bool f.bP,.int .i64 (bZ rs f.on f.od).1.b,.int .i64 (bZ rs f.on f.od).1.r,.int .i64 (bZ rs f.on f.od).1.d],(bZ rs f.on f.od).1.cells) ⟨by simp;omega,hb⟩ (by simp;omega);simp only[VY,hM,if_false,Bool.false_eq_true,FN.cells,hh]at hi;simp[hw,et,ha,ho,ea,eE.bg,mc];simp only[Int.natCast_add,Int.natCast_one]at hi;exact hi
  have eL:k=(dN p.funcs).length:=by omega
  subst eL;have X5:rT (dN p.funcs) (dN p.funcs).length=tM (dN p.funcs):=main_eq λk hk=>by
   have:=EY hD k hk hk;exact(Mb (Mb this).1).1
  have h3:=f3D hA (CQ ▸ hB) (CQ ▸ hC) (CQ ▸ hD);by_cases hm:tM (dN p.funcs)<0;have hr:y7 p=.fm [qm,.agg [.int .i64 3,.int .i64 0]]:=by
   have:iS p=some 0:=by unfold iS;rw[if_pos hm,h3];rfl
   unfold y7;rw[this];rfl
  rw[hr];simp[f1,f2,f3,X5,hm,e2,qm];have hr:y7 p=.fm [wH p,.agg [.int .i64 0,.int .i64 0]]:=by
   have:iS p=none:=by unfold iS;rw[if_neg hm,h3]
   unfold y7;rw[this];rfl
  rw[hr];simp[f1,f2,f3,X5,hm,wH,<-CQ,<-hGG,hGv,<-hRR,hGs,hRs]
end U7
