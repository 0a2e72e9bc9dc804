/- Part of a proof. -/
import Derived.Test.YtpnadocbfbbboaaGreatM

open List renaming take_succ_eq_append_getElem->abu,map_append->ac4,map_cons->abn,map_nil->aeg,getElem?_eq_getElem->aag,getElem?_eq_none->adi,getElem_mem->aaq,any_eq_true->aeB,getElem_take->aiC
open Int renaming natCast_add->aeo,natCast_one->agk
open Bool renaming and_eq_true->aac,false_eq_true->aan
set_option maxRecDepth 100000
set_option maxHeartbeats 4000000
namespace U7
open Ax Go bY V7
theorem FL(wl aa:Nat)(l:AV)(s:List UInt8)(d:Int)(st:ay)(hl:qT l=true)(hn:(eU l).length<1000000000) :
  (aZ S).call wl aa 81 [l,.agg [.str s,.int .i64 d]] st=some (.fK [.agg (cB (eU l) s d).1.cells,.bool (cB (eU l) s d).2],st):=by
 have h1:=yy hl;have h2:=xI hl;have h3:=KO hl;refine bT (sf:=s81) rfl rfl (by simp[cI h1]) rfl (by simp[AV.aB,AV.ax]) ?_;by_cases d0:d<0;rw[DC (.inl d0)];simp[s81,d0];by_cases d3:3<d;rw[DC (.inr d3)];simp[s81,d0,d3];have hd:¬(d<0\/3<d):=by omega
 unfold cB;rw[U hd];by_cases i1:s=[105,110,116];simp[s81,d0,d3,i1];by_cases i2:s=[98,111,111,108];simp[s81,d0,d3,i2];rw[U i1,U i2];simp[s81,d0,d3,i1,i2];refine bH TV.eq_1 (λk:Nat=>⟨[(0,.val l),(3,.fp 0 0),(4,.fp 1 0),(6,.val (.int .i64 k))],[[.str s,.int .i64 d],[.int .i64 0,.int .i64 0,.int .i64 0]],[]⟩)
  (λk=>k<=(eU l).length/\C5 (λx=>decide (x=s)) (eU l) k) (λk=>(eU l).length-k) 0 (by simp) ⟨by simp,rR⟩ ?_
 rintro k ⟨hk,hp⟩ ih;by_cases bC:k<(eU l).length;have hw:=wk k (by omega);by_cases e:(eU l)[k]=s;have hi:=IN hp bC e;have h0:¬((k:Int)<0):=by omega
 simp[hl,h2,h3,bC,e,hi,h0,aD,aC];simp[hl,h2,h3,bC,e,hw,aD,aC];exact ih (k+1) ⟨by omega,rS hp bC (by simpa using e)⟩ (by omega);have fR:k=(eU l).length:=by omega
 have hi:=BP (fR ▸ hp);simp[hl,h2,h3,bC,hi]
theorem Jm(wl aa:Nat)(t:T3)(st:ay):(aZ S).call wl aa 157 [.agg t.cells] st=some (.bool (BQ t),st):=by
 refine bT (sf:=Xy) rfl rfl (by simp) rfl (by simp) ?_;unfold BQ;by_cases b:t.b=3;simp[Xy,b];simp[Xy,b]
end U7
namespace U7
open Ax Go bY V7
theorem Bi(wl aa:Nat)(a:Int)(st:ay):(aZ S).call wl aa 79 [.int .i64 a] st=some (.agg [.int .i64 3,.int .i64 a],st):=by
 refine bT (sf:=s79) rfl rfl (by simp) rfl (by simp) ?_;simp[s79]
theorem Lx(wl aa:Nat)(p:GD)(st:ay)(hp:p.ok)(hn:(cx p.bJ).length<1000000000):(aZ S).call wl aa 51 [.agg p.cells] st=some (bK 1 (gQ (jh (cx p.bJ))),st):=by
 have p1:=Dv hp.bJ;have p2:=AD hp.bJ;have p3:=E4 hp.bJ;have g1:=uu hp.aI;have g2:=pY hp.aI;have f1:=Dw hp.funcs;have f2:=AE hp.funcs;have hpr:=hp.bJ;refine bT (sf:=s51) rfl rfl (by simp[GD.cells,AV.ax,AV.aB,p1,g1,f1]) rfl (by simp) ?_;simp[s51,GD.cells,p1,g1,f1];refine bH TB.eq_1 (λk:Nat=>⟨[(1,.fp 0 0),(3,.val (bK 1 (gQ (jh ((cx p.bJ).take k))))),(4,.val (.int .i64 k))],[[p.bJ,p.aI,p.funcs]],[]⟩)
  (λk=>k<=(cx p.bJ).length) (λk=>(cx p.bJ).length-k) 0 (by simp[jh,gQ,kq]) (by simp) ?_
 intro k hk ih;by_cases bC:k<(cx p.bJ).length;have hw:=wk k (by omega);have ha:oP 1 16 (bK 1 (gQ (jh ((cx p.bJ).take k)))) [[.str (cx p.bJ)[k].name]]=some (bK 1 (gQ (jh ((cx p.bJ).take (k+1))))):=by
  rw[eO (by rfl) (by simp[gQ,jh,cN];omega)];simp only[jh,gQ,abu bC,ac4,abn,aeg]
 simp[p2,p3,hpr,bC,CR.cells,hw,ha];exact ih (k+1) (by omega) (by omega);have fR:k=(cx p.bJ).length:=by omega
 subst fR;simp[p1,p2,p3]
def YS(o:Bool)(l:List PD)(s:List UInt8)(j:Nat):Bool:=o && !((l.take j).any λq=>decide (q.name=s))
theorem Vj{o:Bool}{l:List PD}{s:List UInt8}{j:Nat}(h:j<l.length):YS o l s (j+1)=(YS o l s j && !decide (l[j].name=s)):=by
 unfold YS;rw[abu h,List.any_append];simp[Bool.and_assoc]
def rfV(rs:List (List UInt8))(l:List PD):AV:=.fK [match dy (pE rs) l l.length with|some _=>.af|none=>bK 4 (dY rs l),.agg (zf (dy (pE rs) l l.length))]
theorem nR{α:Type}{nB:List α->α->Option Int}{l:List α}{k:Nat}{y:Int}(h:dy nB l k=some y):∀m,k<=m->dy nB l m=some y:=by
 intro m hm;induction m with
 |zero=>
  have:k=0:=by omega
  subst this;exact h
 |succ m ih=>
  by_cases e:k=m+1;subst e;exact h;show xJ (dy nB l m) _=some y;rw[ih (by omega)];rfl
theorem zV(wl aa:Nat)(l rl:AV)(st:ay)(hl:qT rl=true)(hn:(eU rl).length<1000000000)(hp:BR l=true)(hpn:(jg l).length<1000000000) :
  (aZ S).call wl aa 80 [rl,l] st=some (rfV (eU rl) (jg l),st):=by
 have h1:=yy hl;have h2:=xI hl;have p1:=uu hp;have p2:=pY hp;have p3:=OR hp;have e1:=λwl aa s d st=>FL wl aa rl s d st hl hn;have e2:=λwl aa a st=>Bi wl aa a st;simp only[T3.cells]at e1;refine bT (sf:=s80) rfl rfl (by simp[cI h1,cI p1]) rfl (by cases h:dy (pE (eU rl)) (jg l) (jg l).length<;>simp[rfV,h,zf,AV.aB,AV.ax]) ?_;simp[s80];refine bH TU.eq_1 (λq:Nat×List AV=>⟨[(0,.val rl),(1,.val l),(5,.fp 0 0),(6,.val (bK 4 (dY (eU rl) ((jg l).take q.1)))),(7,.val (.int .i64 q.1))],[[.int .i64 0,.int .i64 0],q.2],[]⟩)
  (λq=>q.1<=(jg l).length/\dy (pE (eU rl)) (jg l) q.1=none) (λq=>(jg l).length-q.1) ((0,[]):Nat×List AV) (by simp[dY,kq]) ⟨by simp,rfl⟩ ?_
 rintro⟨k,bb⟩ ⟨hk,hf⟩ ih;simp only at hk hf ih;by_cases bC:k<(jg l).length;have hw:=wk k (by omega);have hb:=kR (nB:=pE (eU rl)) bC;rw[hf]at hb;have hr:=AS (rs:=eU rl) bC;have hlen:(dY (eU rl) ((jg l).take k)).length=k:=by simp[dY];omega
 have ha:oP 4 40 (bK 4 (dY (eU rl) ((jg l).take k))) [BT (eU rl) (jg l)[k]]=some (bK 4 (dY (eU rl) ((jg l).take (k+1)))):=by
  rw[eO (by rfl) (by rw[hlen];simp[cN];omega),hr]
 generalize hq:(jg l)[k]=p at *;simp only[BT,T3.cells]at ha;obtain⟨o,ho⟩:∃o,o=(cB (eU rl) p.on p.od).2:=⟨_,rfl⟩;simp[h2,p2,p3,hp,bC,PD.cells,hq,e1];refine bH TT.eq_1 (λj:Nat=>⟨[(0,.val rl),(1,.val l),(5,.fp 0 0),(6,.val (bK 4 (dY (eU rl) ((jg l).take k)))),(7,.val (.int .i64 k)),(8,.fp 1 0),(9,.val (.bool (YS o (jg l) p.name j))),(10,.val (.int .i64 j))],
   [[.int .i64 0,.int .i64 0],(cB (eU rl) p.on p.od).1.cells],[]⟩)
  (λj=>j<=k) (λj=>k-j) 0 (by simp[YS,ho]) (by simp) ?_
 intro j hj Bq;by_cases wF:j<k;have C4:=wk j (by omega);have z6:j<(jg l).length:=by omega
 have hs:=Vj (o:=o) (s:=p.name) z6;have Q5:=Bq (j+1) (by omega) (by omega);rw[hs]at Q5;cases Q9:YS o (jg l) p.name j with
 |false=>
  rw[Q9]at Q5;simp[wF,C4,aD,aC];simp only[Bool.false_and]at Q5;exact Q5
 |true=>
  rw[Q9]at Q5;by_cases LJ:(jg l)[j].name=p.name;simp[p2,p3,hp,wF,z6,bC,PD.cells,C4,hq,LJ,aD,aC];simp only[LJ,decide_true,Bool.not_true,Bool.and_false]at Q5;exact Q5;simp[p2,p3,hp,wF,z6,bC,PD.cells,C4,hq,LJ,aD,aC];simp only[cu LJ,Bool.not_false,Bool.and_true]at Q5;exact Q5
 have EY:j=k:=by omega
 subst EY;simp;cases Q9:YS o (jg l) p.name j with
 |true=>
  have wo:pE (eU rl) ((jg l).take j) p=none:=by
   simp only[YS,aac,Bool.not_eq_true',ho]at Q9;unfold pE;rw[Q9.2,Q9.1];rfl
  rw[wo]at hb;simp[p2,p3,hp,bC,PD.cells,hw,hq,ha,aD,aC];exact ih (j+1,_) ⟨by simp;omega,hb⟩ (by simp;omega)
 |false=>
  have wo:pE (eU rl) ((jg l).take j) p=some p.at_:=by
   unfold pE;rw[ah];simp only[YS,Bool.and_eq_false_iff,Bool.not_eq_false',ho]at Q9;rcases Q9 with h|h;rw[h];simp;rw[h];rfl
  rw[wo]at hb;have uo:=nR (show dy (pE (eU rl)) (jg l) (j+1)=some p.at_ from hb) (jg l).length (by omega);simp[p3,hp,bC,PD.cells,hq,e2,rfV,uo,zf]
 have fR:k=(jg l).length:=by omega
 subst fR;simp[p1,p2,p3,rfV,hf,zf]
end U7
namespace U7
open Ax Go bY V7
def s9(l:List FN):Nat->Int
 |0=>-1|k+1=>match l[k]? with
  |some x=>if fC x then (k:Int) else s9 l k
  |none=>s9 l k
theorem NC{a b:Option Int}(h:xJ a b=none):a=none/\b=none:=by
 cases a with
 |none=>exact⟨rfl,h⟩|some x=>cases h
theorem FM{α:Type}{nB:List α->α->Option Int}{l:List α}:∀{m:Nat},dy nB l m=none->∀k (h:k<l.length),k<m->nB (l.take k) l[k]=none
 |0,_,k,_,hk=>aU hk (by omega)|m+1,h,k,hl,hk=>by
  obtain⟨h1,h2⟩:=NC h;by_cases e:k=m;subst e;rw[aag hl]at h2;exact h2;exact FM h1 k hl (by omega)
theorem CM{x:FN}(h:fC x=true):x.name=AW:=by
 simp only[fC,aac,aK]at h;exact h.1.1
theorem zW{l:List FN}(h:∀k (hk:k<l.length),fC l[k]=false):∀m,s9 l m = -1
 |0=>rfl|m+1=>by
  unfold s9;by_cases hm:m<l.length;rw[aag hm];simp[h m hm,zW h m];rw[adi (by omega)];exact zW h m
theorem FO{l:List FN}{j:Nat}(hj:j<l.length)(hm:fC l[j]=true)(h1:∀k (hk:k<l.length),k<j->fC l[k]=false)(h2:∀k (hk:k<l.length),j<k->fC l[k]=false):∀m,s9 l m=if j<m then (j:Int) else -1
 |0=>by simp[s9]|m+1=>by
  have ih:=FO hj hm h1 h2 m;unfold s9;by_cases hml:m<l.length;rw[aag hml];dsimp only;by_cases e:m=j;subst e;rw[ah hm,ah (by omega)];have hf:fC l[m]=false:=by
   rcases Nat.lt_or_gt_of_ne e with h|h;exact h1 m hml h;exact h2 m hml h
  rw[U (by rw[hf];simp),ih];by_cases hjm:j<m;rw[ah hjm,ah (by omega)];rw[U hjm,U (by omega)];rw[adi (by omega)];dsimp only;rw[ih,ah (by omega),ah (by omega)]
theorem main_eq{l:List FN}(h:∀k (hk:k<l.length),K5 (l.take k) l[k]=none):s9 l l.length=oZ l:=by
 unfold oZ;cases e:l.findIdx? fC with
 |none=>
  rw[List.findIdx?_eq_none_iff]at e;exact zW (λk hk=>e _ (aaq hk)) _
 |some j=>
  obtain⟨hj,h1,h2⟩:=List.findIdx?_eq_some_iff_getElem.1 e;rw[FO hj h1 (λk hk hkj=>by simpa using h2 k hkj) (λk hk wF=>?_),ah hj];cases hb:fC l[k] with
  |false=>rfl|true=>
   have:=h k hk;unfold K5 at this;rw[ah]at this;cases this;rw[aeB];refine⟨l[j],?_,?_⟩;exact List.mem_take_iff_getElem.2 ⟨j,by omega,rfl⟩;rw[CM h1,CM hb];simp
theorem Ly{α:Type}{p:α->Bool}{l:List α}{k:Nat}(h:C5 p (l.take k) k):(l.take k).any p=false:=by
 rw[List.any_eq_false];intro q hq;obtain⟨i,hi,rfl⟩:=List.mem_iff_getElem.1 hq;have:=h i hi (by simp at hi;omega);rw[this];simp
variable{p:GD}{y:Int}
theorem fH(h:nH p=some y):zM p=.fK [qU,.agg [.int .i64 3,.int .i64 y]]:=by
 have:jQ p=some y:=by unfold jQ;rw[h];split<;>rfl
 unfold zM;rw[this];rfl
theorem f3A(h:dy sU (cx p.bJ) (cx p.bJ).length=some y):nH p=some y:=by unfold nH;rw[h];rfl
theorem f3B(a:dy sU (cx p.bJ) (cx p.bJ).length=none)(h:dy (AT (jh (cx p.bJ))) (cx p.bJ) (cx p.bJ).length=some y):nH p=some y:=by unfold nH;rw[a,h];rfl
theorem f3C(a:dy sU (cx p.bJ) (cx p.bJ).length=none)(b:dy (AT (jh (cx p.bJ))) (cx p.bJ) (cx p.bJ).length=none)
  (h:dy (pE (jh (cx p.bJ))) (jg p.aI) (jg p.aI).length=some y):nH p=some y:=by unfold nH;rw[a,b,h];rfl
theorem f3D{y:Option Int}(a:dy sU (cx p.bJ) (cx p.bJ).length=none)(b:dy (AT (jh (cx p.bJ))) (cx p.bJ) (cx p.bJ).length=none)
  (c:dy (pE (jh (cx p.bJ))) (jg p.aI) (jg p.aI).length=none)(h:dy (zK (jh (cx p.bJ))) (eu p.funcs) (eu p.funcs).length=y):nH p=y:=by unfold nH;rw[a,b,c,h];rfl
theorem Vk(wl aa:Nat)(p:GD)(st:ay)(hp:p.ok)(hs:GD.sm p):(aZ S).call wl aa 50 [.agg p.cells] st=some (zM p,st):=by
 have p1:=Dv hp.bJ;have p2:=AD hp.bJ;have p3:=E4 hp.bJ;have pr:=hp.bJ;have g1:=uu hp.aI;have g2:=pY hp.aI;have f1:=Dw hp.funcs;have f2:=AE hp.funcs;have f3:=KP hp.funcs;have fr:=hp.funcs;have en:=λwl aa st=>Lx wl aa p st hp hs.bJ;have e2:=λwl aa a st=>Bi wl aa a st;simp only[GD.cells]at en;obtain⟨rs,DD⟩:∃rs,rs=jh (cx p.bJ):=⟨_,rfl⟩;have XZ:rs.length=(cx p.bJ).length:=by rw[DD];simp[jh]
 have hrk:∀k (h:k<rs.length) (h2:k<(cx p.bJ).length),rs[k]=(cx p.bJ)[k].name:=by intro k h h2;subst DD;simp[jh]
 have n1:aN (bK 1 (gQ rs))=true:=ct;have n2:=xP rs;have n3:bt (bK 1 (gQ rs))=rs.map λs=>[.str s]:=sH;have n4:eU (bK 1 (gQ rs))=rs:=tT rs;have n5:cJ 1 (bK 1 (gQ rs))=true:=by simpa using OO n2
 rw[<-DD]at en;generalize bK 1 (gQ rs)=nl at *;have anI:=hs.bJ;have amc:=hs.funcs;refine bT (sf:=s50) rfl rfl (by simp[GD.cells,AV.ax,AV.aB,p1,g1,f1]) rfl (by cases h:jQ p<;>simp[zM,h,qU,xQ,AV.aB,AV.ax]) ?_;simp[s50,GD.cells,p1,p2,g1,g2,f1,f2,en];refine bH Tw.eq_1 (λk:Nat=>⟨[(1,.fp 0 0),(2,.fp 1 0),(3,.fp 2 0),(4,.val nl),(5,.val (.int .i64 k))],
   [[p.bJ,p.aI,p.funcs],[.af,.af,.af,.int .i64 0],[.int .i64 0,.int .i64 0],[],[],[],[],[],[],[]],[]⟩)
  (λk=>k<=(cx p.bJ).length/\dy sU (cx p.bJ) k=none) (λk=>(cx p.bJ).length-k) 0 (by simp) ⟨by simp,rfl⟩ ?_
 intro k ⟨hk,hA⟩ ih;by_cases bC:k<(cx p.bJ).length;have hw:=wk k (by omega);have hb:=kR (nB:=sU) bC;rw[hA]at hb;have HY:k<rs.length:=by omega
 simp[n1,n3,XZ,bC];refine bH Tv.eq_1 (λj:Nat=>⟨[(1,.fp 0 0),(2,.fp 1 0),(3,.fp 2 0),(4,.val nl),(5,.val (.int .i64 k)),(6,.val (.int .i64 j))],
   [[p.bJ,p.aI,p.funcs],[.af,.af,.af,.int .i64 0],[.int .i64 0,.int .i64 0],[],[],[],[],[],[],[]],[]⟩)
  (λj=>j<=k/\C5 (λq:CR=>decide (q.name=(cx p.bJ)[k].name)) ((cx p.bJ).take k) j) (λj=>k-j) 0 (by simp) ⟨by simp,rR⟩ ?_
 intro j ⟨hj,hn⟩ Bq;by_cases wF:j<k;have C4:=wk j (by omega);have ZN:j<rs.length:=by omega
 have z6:j<(cx p.bJ).length:=by omega
 have e1:=hrk j ZN z6;have e3:=hrk k HY bC;have PY:j<((cx p.bJ).take k).length:=by simp;omega
 have hjg:((cx p.bJ).take k)[j]=(cx p.bJ)[j]:=aiC;by_cases LJ:(cx p.bJ)[j].name=(cx p.bJ)[k].name;have wo:sU ((cx p.bJ).take k) (cx p.bJ)[k]=some (cx p.bJ)[k].at_:=by
  unfold sU;rw[ah];exact aeB.2 ⟨_,aaq PY,by rw[hjg];simpa using LJ⟩
 rw[wo]at hb;have hr:=fH (f3A (nR (show dy sU (cx p.bJ) (k+1)=some _ from hb) _ (by omega)));rw[hr];simp[n3,n5,ZN,HY,wF,e1,e3,LJ,p2,p3,pr,bC,CR.cells,e2,qU,aD,aC];simp[n3,n5,ZN,HY,wF,e1,e3,LJ,C4,aD,aC];exact Bq (j+1) ⟨by omega,rS hn PY (by rw[hjg];simpa using LJ)⟩ (by omega);have EY:j=k:=by omega
 subst EY;have wo:sU ((cx p.bJ).take j) (cx p.bJ)[j]=none:=by
  unfold sU;rw[Ly hn];rfl
 rw[wo]at hb;simp[hw];exact ih (j+1) ⟨by omega,hb⟩ (by omega);have fR:k=(cx p.bJ).length:=by omega
 subst fR;simp[n1,n3,XZ];refine bH Tx.eq_1 (λq:Nat×List AV=>⟨[(1,.fp 0 0),(2,.fp 1 0),(3,.fp 2 0),(4,.val nl),(7,.fp 3 0),(8,.val (.int .i64 q.1))],
   [[p.bJ,p.aI,p.funcs],[.af,.af,.af,.int .i64 0],[.int .i64 0,.int .i64 0],[bK 2 (j6 rs ((cx p.bJ).take q.1)),.af,.af,.int .i64 (-1)],q.2,[],[],[],[],[]],[]⟩)
  (λq=>q.1<=(cx p.bJ).length/\dy (AT rs) (cx p.bJ) q.1=none) (λq=>(cx p.bJ).length-q.1) ((0,[]):Nat×List AV) (by simp[j6,kq]) ⟨by simp,rfl⟩ ?_
 rintro⟨k,bb⟩ ⟨hk,hB⟩ ih;simp only at hk hB ih;by_cases bC:k<(cx p.bJ).length;have hw:=wk k (by omega);have hb:=kR (nB:=AT rs) bC;rw[hB]at hb;have HY:k<rs.length:=by omega
 have e1:=hrk k HY bC;have hF:=BS hp.bJ _ (aaq bC);have QD:=uu hF;have JC:=pY hF;have hFn:=hs.jo _ (aaq bC);have e3:=λwl aa st=>zV wl aa (cx p.bJ)[k].jo nl.ai st n2 (by rw[mI,n4];omega) hF hFn;simp only[mI,n4,rfV]at e3;have ha:oP 2 40 (bK 2 (j6 rs ((cx p.bJ).take k))) [BZ rs (cx p.bJ)[k]]=some (bK 2 (j6 rs ((cx p.bJ).take (k+1)))):=by
  rw[eO (by rfl) (by simp[j6,cN];omega)];simp only[j6,abu bC,ac4,abn,aeg]
 simp only[BZ]at ha;cases hf:AT rs ((cx p.bJ).take k) (cx p.bJ)[k] with
 |some y=>
  rw[hf]at hb;have hr:=fH (f3B hA (DD ▸ nR (show dy (AT rs) (cx p.bJ) (k+1)=some _ from hb) _ (by omega)));rw[hr];simp only[AT]at hf;simp only[hf,zf]at e3;simp[p2,p3,pr,bC,CR.cells,JC,e3,qU,bg,bO,gq.bV,mF]
 |none=>
  rw[hf]at hb;simp only[AT]at hf;simp only[hf,zf]at e3;simp[p2,p3,pr,bC,CR.cells,JC,n3,n5,HY,e1,e3,hw,ha,bg,bO,gq.bV,mF];exact ih (k+1,_) ⟨by simp;omega,hb⟩ (by simp;omega)
 have fR:k=(cx p.bJ).length:=by omega
 subst fR;have eg:=λwl aa st=>zV wl aa p.aI nl.ai st n2 (by rw[mI,n4];omega) hp.aI hs.aI;simp only[mI,n4,rfV]at eg;cases hC:dy (pE rs) (jg p.aI) (jg p.aI).length with
 |some y=>
  have hr:=fH (f3C hA (DD ▸ hB) (DD ▸ hC));rw[hr];simp only[hC,zf]at eg;simp[p1,p2,p3,g2,eg,qU,bg,bO,gq.bV,mF]
 |none=>
  simp only[hC,zf]at eg;simp[p1,p2,p3,g2,eg,gq.bV,mF];obtain⟨RR,hRR⟩:∃v,v=bK 2 (j6 rs (cx p.bJ)):=⟨_,rfl⟩;obtain⟨GG,hGG⟩:∃v,v=(bK 4 (dY rs (jg p.aI))).ai:=⟨_,rfl⟩;rw[<-hRR,<-hGG];have hGs:aN GG=true:=by rw[hGG];simp
  have hGv:GG.ai=GG:=by rw[hGG];exact pg _
  have hRs:aN RR=true:=by rw[hRR];simp
  refine bH TA.eq_1 (λq:Nat×List AV×List AV×List AV×List AV=>⟨[(1,.fp 0 0),(2,.fp 1 0),(3,.fp 2 0),(4,.val nl),(7,.fp 3 0),(13,.val (.int .i64 q.1))],
    [[p.bJ,p.aI,p.funcs],[.af,.af,.af,.int .i64 0],[.int .i64 0,.int .i64 0],[RR,GG,bK 6 (gx rs ((eu p.funcs).take q.1)),.int .i64 (s9 (eu p.funcs) q.1)],bb,[.int .i64 0,.int .i64 0],q.2.1,q.2.2.1,q.2.2.2.1,q.2.2.2.2],[]⟩)
   (λq=>q.1<=(eu p.funcs).length/\dy (zK rs) (eu p.funcs) q.1=none) (λq=>(eu p.funcs).length-q.1) ((0,[],[],[],[]):Nat×List AV×List AV×List AV×List AV) (by simp[gx,kq,s9]) ⟨by simp,rfl⟩ ?_
  rintro⟨k,b6,b7,b8,b9⟩ ⟨hk,hD⟩ ih;simp only at hk hD ih;by_cases bC:k<(eu p.funcs).length;have hw:=wk k (by omega);have hb:=kR (nB:=zK rs) bC;rw[hD]at hb;have hG:=Ht hp.funcs _ (aaq bC);have hG1:=hG.1;have QD:=uu hG.1;have JC:=pY hG.1;have ZQ:=hG.2.2;have ZR:=jt hG.2.1 hG.2.2;have hFn:=hs.params _ (aaq bC);have e3:=λwl aa st=>zV wl aa (eu p.funcs)[k].params nl.ai st n2 (by rw[mI,n4];omega) hG.1 hFn;have et:=λwl aa st=>FL wl aa nl.ai (eu p.funcs)[k].on (eu p.funcs)[k].od st n2 (by rw[mI,n4];omega);simp only[mI,n4,rfV,T3.cells]at e3 et;have ha:oP 6 72 (bK 6 (gx rs ((eu p.funcs).take k))) [ji rs (eu p.funcs)[k]]=some (bK 6 (gx rs ((eu p.funcs).take (k+1)))):=by
   rw[eO (by rfl) (by simp[gx,cN];omega)];simp only[gx,abu bC,ac4,abn,aeg]
  have XX:s9 (eu p.funcs) (k+1)=if fC (eu p.funcs)[k] then (k:Int) else s9 (eu p.funcs) k:=by simp[s9,bC]
  have apG:aN (bK 6 (gx rs ((eu p.funcs).take k)))=true:=ct;simp[f2,f3,fr,bC,FN.cells,hG1,ZQ,ZR,JC];refine bH Tz.eq_1 (λj:Nat=>⟨[(1,.fp 0 0),(2,.fp 1 0),(3,.fp 2 0),(4,.val nl),(7,.fp 3 0),(13,.val (.int .i64 k)),(14,.fp 6 0),(15,.val (.int .i64 j))],
    [[p.bJ,p.aI,p.funcs],[.af,.af,.af,.int .i64 0],[.int .i64 0,.int .i64 0],[RR,GG,bK 6 (gx rs ((eu p.funcs).take k)),.int .i64 (s9 (eu p.funcs) k)],bb,[.int .i64 0,.int .i64 0],(eu p.funcs)[k].cells,b7,b8,b9],[]⟩)
   (λj=>j<=k/\C5 (λq:FN=>decide (q.name=(eu p.funcs)[k].name)) ((eu p.funcs).take k) j) (λj=>k-j) 0 (by simp[FN.cells]) ⟨by simp,rR⟩ ?_
  intro j ⟨hj,hn⟩ Bq;by_cases wF:j<k;have C4:=wk j (by omega);have z6:j<(eu p.funcs).length:=by omega
  have PY:j<((eu p.funcs).take k).length:=by simp;omega
  have hjg:((eu p.funcs).take k)[j]=(eu p.funcs)[j]:=aiC;by_cases LJ:(eu p.funcs)[j].name=(eu p.funcs)[k].name;have wo:zK rs ((eu p.funcs).take k) (eu p.funcs)[k]=some (eu p.funcs)[k].at_:=by
   unfold zK K5;rw[ah]
   rfl
   exact aeB.2 ⟨_,aaq PY,by rw[hjg];simpa using LJ⟩
  rw[wo]at hb;have hr:=fH (f3D hA (DD ▸ hB) (DD ▸ hC) (DD ▸ nR (show dy (zK rs) (eu p.funcs) (k+1)=some _ from hb) _ (by omega)));rw[hr];simp[f2,f3,fr,wF,z6,FN.cells,LJ,e2,qU,aD,aC];simp[f2,f3,fr,wF,z6,FN.cells,LJ,C4,aD,aC];exact Bq (j+1) ⟨by omega,rS hn PY (by rw[hjg];simpa using LJ)⟩ (by omega);have EY:j=k:=by omega
  subst EY;have hDn:K5 ((eu p.funcs).take j) (eu p.funcs)[j]=none:=by
   unfold K5;rw[Ly hn];rfl
  have hS:zK rs ((eu p.funcs).take j) (eu p.funcs)[j]=xJ (dy (pE rs) (jg (eu p.funcs)[j].params) (jg (eu p.funcs)[j].params).length) (AU rs (eu p.funcs)[j]):=by
   unfold zK;rw[hDn];rfl
  rw[hS]at hb;generalize hq:(eu p.funcs)[j]=f at *;cases hP:dy (pE rs) (jg f.params) (jg f.params).length with
  |some y=>
   rw[hP]at hb;have hr:=fH (f3D hA (DD ▸ hB) (DD ▸ hC) (DD ▸ nR (show dy (zK rs) (eu p.funcs) (j+1)=some y from hb) _ (by omega)));rw[hr];simp only[hP,zf]at e3;simp[FN.cells,JC,e3,qU,bg,bO,gq.bV,mF]
  |none=>
   rw[hP]at hb;simp only[hP,zf]at e3;simp[FN.cells,JC,e3,gq.bV,mF];have F4:(dY rs (jg f.params)).length=(jg f.params).length:=(by simp[dY]);cases hh:f.cP with
   |false=>
    have hT:AU rs f=none:=(by unfold AU;rw[hh];rfl);rw[hT]at hb;simp only[ji,o9,hh,aS,aan]at ha;by_cases a:f.name=AW;have ea:(f.name=[109,97,105,110])=True:=eq_true a;by_cases b:jg f.params=[];have l0:(jg f.params).length=0:=(by rw[b];rfl);have hM:fC f=true:=(by simp[fC,a,b,hh]);have hi:=ih (j+1,f.cells,[.int .i64 0,.int .i64 0],[.str f.name,(bK 4 (dY rs (jg f.params))).ai,.bool f.cP,.int .i64 0,.int .i64 0,.int .i64 0],b9) ⟨by simp;omega,hb⟩ (by simp;omega);simp only[XX,hM,aQ,FN.cells,hh]at hi;simp[hw,F4,ha,ea,l0,gq.bV];simp only[aeo,agk]at hi;exact hi;have l0:¬(jg f.params).length=0:=(by simpa using b);have l1:((jg f.params).length=0)=False:=eq_false l0;have hM:fC f=false:=(by simp[fC,a,b,hh]);have hi:=ih (j+1,f.cells,[.int .i64 0,.int .i64 0],[.str f.name,(bK 4 (dY rs (jg f.params))).ai,.bool f.cP,.int .i64 0,.int .i64 0,.int .i64 0],b9) ⟨by simp;omega,hb⟩ (by simp;omega);simp only[XX,hM,aS,aan,FN.cells,hh]at hi;simp[hw,F4,ha,ea,l1,gq.bV];simp only[aeo,agk]at hi;exact hi;have ea:(f.name=[109,97,105,110])=False:=eq_false a;have hM:fC f=false:=(by simp[fC,a,hh]);have hi:=ih (j+1,f.cells,[.int .i64 0,.int .i64 0],[.str f.name,(bK 4 (dY rs (jg f.params))).ai,.bool f.cP,.int .i64 0,.int .i64 0,.int .i64 0],b9) ⟨by simp;omega,hb⟩ (by simp;omega);simp only[XX,hM,aS,aan,FN.cells,hh]at hi;simp[hw,ha,ea,gq.bV];simp only[aeo,agk]at hi;exact hi
   |true=>
    cases ho:(cB rs f.on f.od).2 with
    |false=>
     have hT:AU rs f=some f.at_:=(by unfold AU;rw[hh,ho];rfl);rw[hT]at hb;have hr:=fH (f3D hA (DD ▸ hB) (DD ▸ hC) (DD ▸ nR (show dy (zK rs) (eu p.funcs) (j+1)=some f.at_ from hb) _ (by omega)));rw[hr];simp[et,ho,e2,qU]
    |true=>
     have hT:AU rs f=none:=(by unfold AU;rw[hh,ho];rfl);rw[hT]at hb;simp only[ji,o9,hh,aQ]at ha;by_cases a:f.name=AW;have ea:(f.name=[109,97,105,110])=True:=eq_true a;by_cases b:jg f.params=[];have l0:(jg f.params).length=0:=(by rw[b];rfl);have hM:fC f=false:=(by simp[fC,a,b,hh]);have hi:=ih (j+1,f.cells,[.int .i64 0,.int .i64 0],[.str f.name,(bK 4 (dY rs (jg f.params))).ai,.bool f.cP,.int .i64 (cB rs f.on f.od).1.b,.int .i64 (cB rs f.on f.od).1.r,.int .i64 (cB rs f.on f.od).1.d],(cB rs f.on f.od).1.cells) ⟨by simp;omega,hb⟩ (by simp;omega);simp only[XX,hM,aS,aan,FN.cells,hh]at hi;simp[hw,F4,et,ha,ho,ea,l0,gq.bV,mF];simp only[aeo,agk]at hi;exact hi;have l0:¬(jg f.params).length=0:=(by simpa using b);have l1:((jg f.params).length=0)=False:=eq_false l0;have hM:fC f=false:=(by simp[fC,a,b,hh]);have hi:=ih (j+1,f.cells,[.int .i64 0,.int .i64 0],[.str f.name,(bK 4 (dY rs (jg f.params))).ai,.bool f.cP,.int .i64 (cB rs f.on f.od).1.b,.int .i64 (cB rs f.on f.od).1.r,.int .i64 (cB rs f.on f.od).1.d],(cB rs f.on f.od).1.cells) ⟨by simp;omega,hb⟩ (by simp;omega);simp only[XX,hM,aS,aan,FN.cells,hh]at hi;simp[hw,F4,et,ha,ho,ea,l1,gq.bV,mF];simp only[aeo,agk]at hi;exact hi;have ea:(f.name=[109,97,105,110])=False:=eq_false a;have hM:fC f=false:=(by simp[fC,a,hh]);have hi:=ih (j+1,f.cells,[.int .i64 0,.int .i64 0],[.str f.name,(bK 4 (dY rs (jg f.params))).ai,.bool f.cP,.int .i64 (cB rs f.on f.od).1.b,.int .i64 (cB rs f.on f.od).1.r,.int .i64 (cB rs f.on f.od).1.d],(cB rs f.on f.od).1.cells) ⟨by simp;omega,hb⟩ (by simp;omega);simp only[XX,hM,aS,aan,FN.cells,hh]at hi;simp[hw,et,ha,ho,ea,gq.bV,mF];simp only[aeo,agk]at hi;exact hi
  have fR:k=(eu p.funcs).length:=by omega
  subst fR;have aab:s9 (eu p.funcs) (eu p.funcs).length=oZ (eu p.funcs):=main_eq λk hk=>by
   have:=FM hD k hk hk;exact(NC (NC this).1).1
  have h3:=f3D hA (DD ▸ hB) (DD ▸ hC) (DD ▸ hD);by_cases hm:oZ (eu p.funcs)<0;have hr:zM p=.fK [qU,.agg [.int .i64 3,.int .i64 0]]:=by
   have:jQ p=some 0:=by unfold jQ;rw[ah hm,h3];rfl
   unfold zM;rw[this];rfl
  rw[hr];simp[f1,f2,f3,aab,hm,e2,qU];have hr:zM p=.fK [xQ p,.agg [.int .i64 0,.int .i64 0]]:=by
   have:jQ p=none:=by unfold jQ;rw[U hm,h3]
   unfold zM;rw[this];rfl
  rw[hr];simp[f1,f2,f3,aab,hm,xQ,<-DD,<-hGG,hGv,<-hRR,hGs,hRs]
end U7
