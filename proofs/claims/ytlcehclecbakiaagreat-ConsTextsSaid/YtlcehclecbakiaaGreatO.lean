/- Part of a proof. -/
import Derived.Test.YtlcehclecbakiaaGreatM

open List renaming take_succ_eq_append_getElem→abL,map_append→abT,map_cons→abh,map_nil→ad5,getElem?_eq_getElem→aao,getElem?_eq_none→abV,getElem_mem→aar,any_eq_true→afE,getElem_take→ajJ
open Int renaming natCast_add→aes,natCast_one→agx
open Bool renaming and_eq_true→Ar,false_eq_true→aaq
set_option maxRecDepth 100000
set_option maxHeartbeats 4000000
namespace U7
open Ax Go aF V7
theorem Fx(wl aa:Nat)(l:AV)(s:List UInt8)(d:Int)(st:ag)(hl:zf l=true)(hn:(l8 l).length<1000000000) :
  (aP S).call wl aa 101 [l,.agg [.str s,.int .i64 d]] st=some (.ir [.agg (cz (l8 l) s d).1.cells,.bool (cz (l8 l) s d).2],st):=by
 have h1:=PA hl;have h2:=Lj hl;have h3:=VI hl;refine aH (sf:=Nz) rfl rfl (by simp[cD h1]) rfl (by simp[AV.ay,AV.au]) ?_;by_cases d0:d<0;rw[PO (.inl d0)];simp[Nz,d0];by_cases d3:3<d;rw[PO (.inr d3)];simp[Nz,d0,d3];have hd:¬(d<0\/3<d):=by omega
 unfold cz;rw[if_neg hd];by_cases i1:s=[105,110,116];simp[Nz,d0,d3,i1];by_cases i2:s=[98,111,111,108];simp[Nz,d0,d3,i2];rw[if_neg i1,if_neg i2];simp[Nz,d0,d3,i1,i2];refine aT Pd.eq_1 (λk:Nat=>⟨[(0,.val l),(3,.fp 0 0),(4,.fp 1 0),(6,.val (.int .i64 k))],[[.str s,.int .i64 d],[.int .i64 0,.int .i64 0,.int .i64 0]],[]⟩)
  (λk=>k<=(l8 l).length/\BB (λx=>decide (x=s)) (l8 l) k) (λk=>(l8 l).length-k) 0 (by simp) ⟨by simp,yg⟩ ?_
 rintro k ⟨hk,hp⟩ ih;by_cases aQ:k<(l8 l).length;have hw:=wk k (by omega);by_cases e:(l8 l)[k]=s;have hi:=ZP hp aQ e;have h0:¬((k:Int)<0):=by omega
 simp[hl,h2,h3,aQ,e,hi,h0,ai,ah];simp[hl,h2,h3,aQ,e,hw,ai,ah];exact ih (k+1) ⟨by omega,yh hp aQ (by simpa using e)⟩ (by omega);have cL:k=(l8 l).length:=by omega
 have hi:=Rm (cL ▸ hp);simp[hl,h2,h3,aQ,hi]
theorem pZ(wl aa:Nat)(t:T3)(st:ag):(aP S).call wl aa 17 [.agg t.cells] st=some (.bool (g9 t),st):=by
 refine aH (sf:=s17) rfl rfl (by simp) rfl (by simp) ?_;unfold g9;by_cases b:t.b=3;simp[s17,b];simp[s17,b]
end U7
namespace U7
open Ax Go aF V7
theorem AU(wl aa:Nat)(a:Int)(st:ag):(aP S).call wl aa 99 [.int .i64 a] st=some (.agg [.int .i64 3,.int .i64 a],st):=by
 refine aH (sf:=s99) rfl rfl (by simp) rfl (by simp) ?_;simp[s99]
theorem L2(wl aa:Nat)(p:GD)(st:ag)(hp:p.ok)(hn:(di p.aD).length<1000000000):(aP S).call wl aa 70 [.agg p.cells] st=some (bF 1 (jY (pA (di p.aD))),st):=by
 have p1:=PI hp.aD;have p2:=Lm hp.aD;have p3:=Ll hp.aD;have g1:=EY hp.globals;have g2:=AE hp.globals;have f1:=PJ hp.funcs;have f2:=Ln hp.funcs;have hpr:=hp.aD;refine aH (sf:=s70) rfl rfl (by simp[GD.cells,AV.au,AV.ay,p1,g1,f1]) rfl (by simp) ?_;simp[s70,GD.cells,p1,g1,f1];refine aT Vl.eq_1 (λk:Nat=>⟨[(1,.fp 0 0),(3,.val (bF 1 (jY (pA ((di p.aD).take k))))),(4,.val (.int .i64 k))],[[p.aD,p.globals,p.funcs]],[]⟩)
  (λk=>k<=(di p.aD).length) (λk=>(di p.aD).length-k) 0 (by simp[pA,jY,fY]) (by simp) ?_
 intro k hk ih;by_cases aQ:k<(di p.aD).length;have hw:=wk k (by omega);have ha:qY 1 16 (bF 1 (jY (pA ((di p.aD).take k)))) [[.str (di p.aD)[k].name]]=some (bF 1 (jY (pA ((di p.aD).take (k+1))))):=by
  rw[eB (by rfl) (by simp[jY,pA,dQ];omega)];simp only[pA,jY,abL aQ,abT,abh,ad5]
 simp[p2,p3,hpr,aQ,CR.cells,hw,ha];exact ih (k+1) (by omega) (by omega);have cL:k=(di p.aD).length:=by omega
 subst cL;simp[p1,p2,p3]
def okJ(o:Bool)(l:List PD)(s:List UInt8)(j:Nat):Bool:=o && !((l.take j).any λq=>decide (q.name=s))
theorem WG{o:Bool}{l:List PD}{s:List UInt8}{j:Nat}(h:j<l.length):okJ o l s (j+1)=(okJ o l s j && !decide (l[j].name=s)):=by
 unfold okJ;rw[abL h,List.any_append];simp[Bool.and_assoc]
def rfV(rs:List (List UInt8))(l:List PD):AV:=.ir [match dy (uB rs) l l.length with|some _=>.U|none=>bF 4 (fz rs l),.agg (zh (dy (uB rs) l l.length))]
theorem nV{α:Type}{zg:List α->α->Option Int}{l:List α}{k:Nat}{y:Int}(h:dy zg l k=some y):∀m,k<=m->dy zg l m=some y:=by
 intro m hm;induction m with
 |zero=>
  have:k=0:=by omega
  subst this;exact h
 |succ m ih=>
  by_cases e:k=m+1;subst e;exact h;show PK (dy zg l m) _=some y;rw[ih (by omega)];rfl
theorem zR(wl aa:Nat)(l rl:AV)(st:ag)(hl:zf rl=true)(hn:(l8 rl).length<1000000000)(hp:CW l=true)(hpn:(lR l).length<1000000000) :
  (aP S).call wl aa 100 [rl,l] st=some (rfV (l8 rl) (lR l),st):=by
 have h1:=PA hl;have h2:=Lj hl;have p1:=EY hp;have p2:=AE hp;have p3:=ZR hp;have e1:=λwl aa s d st=>Fx wl aa rl s d st hl hn;have e2:=λwl aa a st=>AU wl aa a st;simp only[T3.cells]at e1;refine aH (sf:=adD) rfl rfl (by simp[cD h1,cD p1]) rfl (by cases h:dy (uB (l8 rl)) (lR l) (lR l).length<;>simp[rfV,h,zh,AV.ay,AV.au]) ?_;simp[adD];refine aT Pc.eq_1 (λq:Nat×List AV=>⟨[(0,.val rl),(1,.val l),(5,.fp 0 0),(6,.val (bF 4 (fz (l8 rl) ((lR l).take q.1)))),(7,.val (.int .i64 q.1))],[[.int .i64 0,.int .i64 0],q.2],[]⟩)
  (λq=>q.1<=(lR l).length/\dy (uB (l8 rl)) (lR l) q.1=none) (λq=>(lR l).length-q.1) ((0,[]):Nat×List AV) (by simp[fz,fY]) ⟨by simp,rfl⟩ ?_
 rintro⟨k,bb⟩ ⟨hk,hf⟩ ih;simp only at hk hf ih;by_cases aQ:k<(lR l).length;have hw:=wk k (by omega);have hb:=tF (zg:=uB (l8 rl)) aQ;rw[hf]at hb;have hr:=Jd (rs:=l8 rl) aQ;have hlen:(fz (l8 rl) ((lR l).take k)).length=k:=by simp[fz];omega
 have ha:qY 4 40 (bF 4 (fz (l8 rl) ((lR l).take k))) [I3 (l8 rl) (lR l)[k]]=some (bF 4 (fz (l8 rl) ((lR l).take (k+1)))):=by
  rw[eB (by rfl) (by rw[hlen];simp[dQ];omega),hr]
 generalize hq:(lR l)[k]=p at *;simp only[I3,T3.cells]at ha;obtain⟨o,ho⟩:∃o,o=(cz (l8 rl) p.on p.od).2:=⟨_,rfl⟩;simp[h2,p2,p3,hp,aQ,PD.cells,hq,e1];refine aT Pb.eq_1 (λj:Nat=>⟨[(0,.val rl),(1,.val l),(5,.fp 0 0),(6,.val (bF 4 (fz (l8 rl) ((lR l).take k)))),(7,.val (.int .i64 k)),(8,.fp 1 0),(9,.val (.bool (okJ o (lR l) p.name j))),(10,.val (.int .i64 j))],
   [[.int .i64 0,.int .i64 0],(cz (l8 rl) p.on p.od).1.cells],[]⟩)
  (λj=>j<=k) (λj=>k-j) 0 (by simp[okJ,ho]) (by simp) ?_
 intro j hj rO;by_cases oe:j<k;have nR:=wk j (by omega);have kJ:j<(lR l).length:=by omega
 have hs:=WG (o:=o) (s:=p.name) kJ;have DS:=rO (j+1) (by omega) (by omega);rw[hs]at DS;cases SO:okJ o (lR l) p.name j with
 |false=>
  rw[SO]at DS;simp[oe,nR,ai,ah];simp only[Bool.false_and]at DS;exact DS
 |true=>
  rw[SO]at DS;by_cases Mx:(lR l)[j].name=p.name;simp[p2,p3,hp,oe,kJ,aQ,PD.cells,nR,hq,Mx,ai,ah];simp only[Mx,decide_true,Bool.not_true,Bool.and_false]at DS;exact DS;simp[p2,p3,hp,oe,kJ,aQ,PD.cells,nR,hq,Mx,ai,ah];simp only[decide_eq_false Mx,Bool.not_false,Bool.and_true]at DS;exact DS
 have ER:j=k:=by omega
 subst ER;simp;cases SO:okJ o (lR l) p.name j with
 |true=>
  have JE:uB (l8 rl) ((lR l).take j) p=none:=by
   simp only[okJ,Ar,Bool.not_eq_true',ho]at SO;unfold uB;rw[SO.2,SO.1];rfl
  rw[JE]at hb;simp[p2,p3,hp,aQ,PD.cells,hw,hq,ha,ai,ah];exact ih (j+1,_) ⟨by simp;omega,hb⟩ (by simp;omega)
 |false=>
  have JE:uB (l8 rl) ((lR l).take j) p=some p.at_:=by
   unfold uB;rw[if_pos];simp only[okJ,Bool.and_eq_false_iff,Bool.not_eq_false',ho]at SO;rcases SO with h|h;rw[h];simp;rw[h];rfl
  rw[JE]at hb;have Q1:=nV (show dy (uB (l8 rl)) (lR l) (j+1)=some p.at_ from hb) (lR l).length (by omega);simp[p3,hp,aQ,PD.cells,hq,e2,rfV,Q1,zh]
 have cL:k=(lR l).length:=by omega
 subst cL;simp[p1,p2,p3,rfV,hf,zh]
end U7
namespace U7
open Ax Go aF V7
def sN(l:List FN):Nat->Int
 |0=>-1|k+1=>match l[k]? with
  |some x=>if fP x then (k:Int) else sN l k
  |none=>sN l k
theorem NZ{a b:Option Int}(h:PK a b=none):a=none/\b=none:=by
 cases a with
 |none=>exact⟨rfl,h⟩|some x=>cases h
theorem Fy{α:Type}{zg:List α->α->Option Int}{l:List α}:∀{m:Nat},dy zg l m=none->∀k (h:k<l.length),k<m->zg (l.take k) l[k]=none
 |0,_,k,_,hk=>absurd hk (by omega)|m+1,h,k,hl,hk=>by
  obtain⟨h1,h2⟩:=NZ h;by_cases e:k=m;subst e;rw[aao hl]at h2;exact h2;exact Fy h1 k hl (by omega)
theorem Cz{x:FN}(h:fP x=true):x.name=PT:=by
 simp only[fP,Ar,decide_eq_true_eq]at h;exact h.1.1
theorem zS{l:List FN}(h:∀k (hk:k<l.length),fP l[k]=false):∀m,sN l m = -1
 |0=>rfl|m+1=>by
  unfold sN;by_cases hm:m<l.length;rw[aao hm];simp[h m hm,zS h m];rw[abV (by omega)];exact zS h m
theorem Fz{l:List FN}{j:Nat}(hj:j<l.length)(hm:fP l[j]=true)(h1:∀k (hk:k<l.length),k<j->fP l[k]=false)(h2:∀k (hk:k<l.length),j<k->fP l[k]=false):∀m,sN l m=if j<m then (j:Int) else -1
 |0=>by simp[sN]|m+1=>by
  have ih:=Fz hj hm h1 h2 m;unfold sN;by_cases JF:m<l.length;rw[aao JF];dsimp only;by_cases e:m=j;subst e;rw[if_pos hm,if_pos (by omega)];have hf:fP l[m]=false:=by
   rcases Nat.lt_or_gt_of_ne e with h|h;exact h1 m JF h;exact h2 m JF h
  rw[if_neg (by rw[hf];simp),ih];by_cases hjm:j<m;rw[if_pos hjm,if_pos (by omega)];rw[if_neg hjm,if_neg (by omega)];rw[abV (by omega)];dsimp only;rw[ih,if_pos (by omega),if_pos (by omega)]
theorem main_eq{l:List FN}(h:∀k (hk:k<l.length),Rz (l.take k) l[k]=none):sN l l.length=Cv l:=by
 unfold Cv;cases e:l.findIdx? fP with
 |none=>
  rw[List.findIdx?_eq_none_iff]at e;exact zS (λk hk=>e _ (aar hk)) _
 |some j=>
  obtain⟨hj,h1,h2⟩:=List.findIdx?_eq_some_iff_getElem.1 e;rw[Fz hj h1 (λk hk hkj=>by simpa using h2 k hkj) (λk hk oe=>?_),if_pos hj];cases hb:fP l[k] with
  |false=>rfl|true=>
   have:=h k hk;unfold Rz at this;rw[if_pos]at this;cases this;rw[afE];refine⟨l[j],?_,?_⟩;exact List.mem_take_iff_getElem.2 ⟨j,by omega,rfl⟩;rw[Cz h1,Cz hb];simp
theorem L3{α:Type}{p:α->Bool}{l:List α}{k:Nat}(h:BB p (l.take k) k):(l.take k).any p=false:=by
 rw[List.any_eq_false];intro q hq;obtain⟨i,hi,rfl⟩:=List.mem_iff_getElem.1 hq;have:=h i hi (by simp at hi;omega);rw[this];simp
theorem fH{p:GD}{y:Int}(h:pJ p=some y):Gk p=.ir [wu,.agg [.int .i64 3,.int .i64 y]]:=by
 have:jy p=some y:=by unfold jy;rw[h];split<;>rfl
 unfold Gk;rw[this];rfl
theorem f3A{p:GD}{y:Int}(h:dy CZ (di p.aD) (di p.aD).length=some y):pJ p=some y:=by unfold pJ;rw[h];rfl
theorem f3B{p:GD}{y:Int}(a:dy CZ (di p.aD) (di p.aD).length=none)(h:dy (Fh (pA (di p.aD))) (di p.aD) (di p.aD).length=some y):pJ p=some y:=by unfold pJ;rw[a,h];rfl
theorem f3C{p:GD}{y:Int}(a:dy CZ (di p.aD) (di p.aD).length=none)(b:dy (Fh (pA (di p.aD))) (di p.aD) (di p.aD).length=none)
  (h:dy (uB (pA (di p.aD))) (lR p.globals) (lR p.globals).length=some y):pJ p=some y:=by unfold pJ;rw[a,b,h];rfl
theorem f3D{p:GD}{y:Option Int}(a:dy CZ (di p.aD) (di p.aD).length=none)(b:dy (Fh (pA (di p.aD))) (di p.aD) (di p.aD).length=none)
  (c:dy (uB (pA (di p.aD))) (lR p.globals) (lR p.globals).length=none)(h:dy (C0 (pA (di p.aD))) (fN p.funcs) (fN p.funcs).length=y):pJ p=y:=by unfold pJ;rw[a,b,c,h];rfl
theorem FA(wl aa:Nat)(p:GD)(st:ag)(hp:p.ok)(hs:GD.sm p):(aP S).call wl aa 69 [.agg p.cells] st=some (Gk p,st):=by
 have p1:=PI hp.aD;have p2:=Lm hp.aD;have p3:=Ll hp.aD;have pr:=hp.aD;have g1:=EY hp.globals;have g2:=AE hp.globals;have f1:=PJ hp.funcs;have f2:=Ln hp.funcs;have f3:=VM hp.funcs;have fr:=hp.funcs;have en:=λwl aa st=>L2 wl aa p st hp hs.aD;have e2:=λwl aa a st=>AU wl aa a st;simp only[GD.cells]at en;obtain⟨rs,Gn⟩:∃rs,rs=pA (di p.aD):=⟨_,rfl⟩;have hrn:rs.length=(di p.aD).length:=by rw[Gn];simp[pA]
 have hrk:∀k (h:k<rs.length) (h2:k<(di p.aD).length),rs[k]=(di p.aD)[k].name:=by intro k h h2;subst Gn;simp[pA]
 have n1:aL (bF 1 (jY rs))=true:=cP;have n2:=V6 rs;have n3:aJ (bF 1 (jY rs))=rs.map λs=>[.str s]:=qi;have n4:l8 (bF 1 (jY rs))=rs:=Z7 rs;have n5:bY 1 (bF 1 (jY rs))=true:=by simpa using Pz n2
 rw[<-Gn]at en;generalize bF 1 (jY rs)=nl at *;have apG:=hs.aD;have anQ:=hs.funcs;refine aH (sf:=s69) rfl rfl (by simp[GD.cells,AV.au,AV.ay,p1,g1,f1]) rfl (by cases h:jy p<;>simp[Gk,h,wu,BI,AV.ay,AV.au]) ?_;simp[s69,GD.cells,p1,p2,g1,g2,f1,f2,en];refine aT Vh.eq_1 (λk:Nat=>⟨[(1,.fp 0 0),(2,.fp 1 0),(3,.fp 2 0),(4,.val nl),(5,.val (.int .i64 k))],
   [[p.aD,p.globals,p.funcs],[.U,.U,.U,.int .i64 0],[.int .i64 0,.int .i64 0],[],[],[],[],[],[],[]],[]⟩)
  (λk=>k<=(di p.aD).length/\dy CZ (di p.aD) k=none) (λk=>(di p.aD).length-k) 0 (by simp) ⟨by simp,rfl⟩ ?_
 intro k ⟨hk,hA⟩ ih;by_cases aQ:k<(di p.aD).length;have hw:=wk k (by omega);have hb:=tF (zg:=CZ) aQ;rw[hA]at hb;have MN:k<rs.length:=by omega
 simp[n1,n3,hrn,aQ];refine aT Vg.eq_1 (λj:Nat=>⟨[(1,.fp 0 0),(2,.fp 1 0),(3,.fp 2 0),(4,.val nl),(5,.val (.int .i64 k)),(6,.val (.int .i64 j))],
   [[p.aD,p.globals,p.funcs],[.U,.U,.U,.int .i64 0],[.int .i64 0,.int .i64 0],[],[],[],[],[],[],[]],[]⟩)
  (λj=>j<=k/\BB (λq:CR=>decide (q.name=(di p.aD)[k].name)) ((di p.aD).take k) j) (λj=>k-j) 0 (by simp) ⟨by simp,yg⟩ ?_
 intro j ⟨hj,hn⟩ rO;by_cases oe:j<k;have nR:=wk j (by omega);have hjr:j<rs.length:=by omega
 have kJ:j<(di p.aD).length:=by omega
 have e1:=hrk j hjr kJ;have e3:=hrk k MN aQ;have QX:j<((di p.aD).take k).length:=by simp;omega
 have hjg:((di p.aD).take k)[j]=(di p.aD)[j]:=ajJ;by_cases Mx:(di p.aD)[j].name=(di p.aD)[k].name;have JE:CZ ((di p.aD).take k) (di p.aD)[k]=some (di p.aD)[k].at_:=by
  unfold CZ;rw[if_pos];exact afE.2 ⟨_,aar QX,by rw[hjg];simpa using Mx⟩
 rw[JE]at hb;have hr:=fH (f3A (nV (show dy CZ (di p.aD) (k+1)=some _ from hb) _ (by omega)));rw[hr];simp[n3,n5,hjr,MN,oe,e1,e3,Mx,p2,p3,pr,aQ,CR.cells,e2,wu,ai,ah];simp[n3,n5,hjr,MN,oe,e1,e3,Mx,nR,ai,ah];exact rO (j+1) ⟨by omega,yh hn QX (by rw[hjg];simpa using Mx)⟩ (by omega);have ER:j=k:=by omega
 subst ER;have JE:CZ ((di p.aD).take j) (di p.aD)[j]=none:=by
  unfold CZ;rw[L3 hn];rfl
 rw[JE]at hb;simp[hw];exact ih (j+1) ⟨by omega,hb⟩ (by omega);have cL:k=(di p.aD).length:=by omega
 subst cL;simp[n1,n3,hrn];refine aT Vi.eq_1 (λq:Nat×List AV=>⟨[(1,.fp 0 0),(2,.fp 1 0),(3,.fp 2 0),(4,.val nl),(7,.fp 3 0),(8,.val (.int .i64 q.1))],
   [[p.aD,p.globals,p.funcs],[.U,.U,.U,.int .i64 0],[.int .i64 0,.int .i64 0],[bF 2 (pV rs ((di p.aD).take q.1)),.U,.U,.int .i64 (-1)],q.2,[],[],[],[],[]],[]⟩)
  (λq=>q.1<=(di p.aD).length/\dy (Fh rs) (di p.aD) q.1=none) (λq=>(di p.aD).length-q.1) ((0,[]):Nat×List AV) (by simp[pV,fY]) ⟨by simp,rfl⟩ ?_
 rintro⟨k,bb⟩ ⟨hk,hB⟩ ih;simp only at hk hB ih;by_cases aQ:k<(di p.aD).length;have hw:=wk k (by omega);have hb:=tF (zg:=Fh rs) aQ;rw[hB]at hb;have MN:k<rs.length:=by omega
 have e1:=hrk k MN aQ;have hF:=Rn hp.aD _ (aar aQ);have S1:=EY hF;have CA:=AE hF;have hFn:=hs.bM _ (aar aQ);have e3:=λwl aa st=>zR wl aa (di p.aD)[k].bM nl.view st n2 (by rw[pz,n4];omega) hF hFn;simp only[pz,n4,rfV]at e3;have ha:qY 2 40 (bF 2 (pV rs ((di p.aD).take k))) [Je rs (di p.aD)[k]]=some (bF 2 (pV rs ((di p.aD).take (k+1)))):=by
  rw[eB (by rfl) (by simp[pV,dQ];omega)];simp only[pV,abL aQ,abT,abh,ad5]
 simp only[Je]at ha;cases hf:Fh rs ((di p.aD).take k) (di p.aD)[k] with
 |some y=>
  rw[hf]at hb;have hr:=fH (f3B hA (Gn ▸ nV (show dy (Fh rs) (di p.aD) (k+1)=some _ from hb) _ (by omega)));rw[hr];simp only[Fh]at hf;simp only[hf,zh]at e3;simp[p2,p3,pr,aQ,CR.cells,CA,e3,wu,aN,bp,dG.aI,dZ]
 |none=>
  rw[hf]at hb;simp only[Fh]at hf;simp only[hf,zh]at e3;simp[p2,p3,pr,aQ,CR.cells,CA,n3,n5,MN,e1,e3,hw,ha,aN,bp,dG.aI,dZ];exact ih (k+1,_) ⟨by simp;omega,hb⟩ (by simp;omega)
 have cL:k=(di p.aD).length:=by omega
 subst cL;have eg:=λwl aa st=>zR wl aa p.globals nl.view st n2 (by rw[pz,n4];omega) hp.globals hs.globals;simp only[pz,n4,rfV]at eg;cases hC:dy (uB rs) (lR p.globals) (lR p.globals).length with
 |some y=>
  have hr:=fH (f3C hA (Gn ▸ hB) (Gn ▸ hC));rw[hr];simp only[hC,zh]at eg;simp[p1,p2,p3,g2,eg,wu,aN,bp,dG.aI,dZ]
 |none=>
  simp only[hC,zh]at eg;simp[p1,p2,p3,g2,eg,dG.aI,dZ];obtain⟨RR,hRR⟩:∃v,v=bF 2 (pV rs (di p.aD)):=⟨_,rfl⟩;obtain⟨GG,hGG⟩:∃v,v=(bF 4 (fz rs (lR p.globals))).view:=⟨_,rfl⟩;rw[<-hRR,<-hGG];have hGs:aL GG=true:=by rw[hGG];simp
  have hGv:GG.view=GG:=by rw[hGG];exact rL _
  have hRs:aL RR=true:=by rw[hRR];simp
  refine aT Vk.eq_1 (λq:Nat×List AV×List AV×List AV×List AV=>⟨[(1,.fp 0 0),(2,.fp 1 0),(3,.fp 2 0),(4,.val nl),(7,.fp 3 0),(13,.val (.int .i64 q.1))],
    [[p.aD,p.globals,p.funcs],[.U,.U,.U,.int .i64 0],[.int .i64 0,.int .i64 0],[RR,GG,bF 6 (oF rs ((fN p.funcs).take q.1)),.int .i64 (sN (fN p.funcs) q.1)],bb,[.int .i64 0,.int .i64 0],q.2.1,q.2.2.1,q.2.2.2.1,q.2.2.2.2],[]⟩)
   (λq=>q.1<=(fN p.funcs).length/\dy (C0 rs) (fN p.funcs) q.1=none) (λq=>(fN p.funcs).length-q.1) ((0,[],[],[],[]):Nat×List AV×List AV×List AV×List AV) (by simp[oF,fY,sN]) ⟨by simp,rfl⟩ ?_
  rintro⟨k,b6,b7,b8,b9⟩ ⟨hk,hD⟩ ih;simp only at hk hD ih;by_cases aQ:k<(fN p.funcs).length;have hw:=wk k (by omega);have hb:=tF (zg:=C0 rs) aQ;rw[hD]at hb;have hG:=Ro hp.funcs _ (aar aQ);have hG1:=hG.1;have S1:=EY hG.1;have CA:=AE hG.1;have hBs:=hG.2.2;have hBv:=dg hG.2.1 hG.2.2;have hFn:=hs.params _ (aar aQ);have e3:=λwl aa st=>zR wl aa (fN p.funcs)[k].params nl.view st n2 (by rw[pz,n4];omega) hG.1 hFn;have et:=λwl aa st=>Fx wl aa nl.view (fN p.funcs)[k].on (fN p.funcs)[k].od st n2 (by rw[pz,n4];omega);simp only[pz,n4,rfV,T3.cells]at e3 et;have ha:qY 6 72 (bF 6 (oF rs ((fN p.funcs).take k))) [Fi rs (fN p.funcs)[k]]=some (bF 6 (oF rs ((fN p.funcs).take (k+1)))):=by
   rw[eB (by rfl) (by simp[oF,dQ];omega)];simp only[oF,abL aQ,abT,abh,ad5]
  have X8:sN (fN p.funcs) (k+1)=if fP (fN p.funcs)[k] then (k:Int) else sN (fN p.funcs) k:=by simp[sN,aQ]
  have arI:aL (bF 6 (oF rs ((fN p.funcs).take k)))=true:=cP;simp[f2,f3,fr,aQ,FN.cells,hG1,hBs,hBv,CA];refine aT Vj.eq_1 (λj:Nat=>⟨[(1,.fp 0 0),(2,.fp 1 0),(3,.fp 2 0),(4,.val nl),(7,.fp 3 0),(13,.val (.int .i64 k)),(14,.fp 6 0),(15,.val (.int .i64 j))],
    [[p.aD,p.globals,p.funcs],[.U,.U,.U,.int .i64 0],[.int .i64 0,.int .i64 0],[RR,GG,bF 6 (oF rs ((fN p.funcs).take k)),.int .i64 (sN (fN p.funcs) k)],bb,[.int .i64 0,.int .i64 0],(fN p.funcs)[k].cells,b7,b8,b9],[]⟩)
   (λj=>j<=k/\BB (λq:FN=>decide (q.name=(fN p.funcs)[k].name)) ((fN p.funcs).take k) j) (λj=>k-j) 0 (by simp[FN.cells]) ⟨by simp,yg⟩ ?_
  intro j ⟨hj,hn⟩ rO;by_cases oe:j<k;have nR:=wk j (by omega);have kJ:j<(fN p.funcs).length:=by omega
  have QX:j<((fN p.funcs).take k).length:=by simp;omega
  have hjg:((fN p.funcs).take k)[j]=(fN p.funcs)[j]:=ajJ;by_cases Mx:(fN p.funcs)[j].name=(fN p.funcs)[k].name;have JE:C0 rs ((fN p.funcs).take k) (fN p.funcs)[k]=some (fN p.funcs)[k].at_:=by
   unfold C0 Rz;rw[if_pos]
   rfl
   exact afE.2 ⟨_,aar QX,by rw[hjg];simpa using Mx⟩
  rw[JE]at hb;have hr:=fH (f3D hA (Gn ▸ hB) (Gn ▸ hC) (Gn ▸ nV (show dy (C0 rs) (fN p.funcs) (k+1)=some _ from hb) _ (by omega)));rw[hr];simp[f2,f3,fr,oe,kJ,FN.cells,Mx,e2,wu,ai,ah];simp[f2,f3,fr,oe,kJ,FN.cells,Mx,nR,ai,ah];exact rO (j+1) ⟨by omega,yh hn QX (by rw[hjg];simpa using Mx)⟩ (by omega);have ER:j=k:=by omega
  subst ER;have hDn:Rz ((fN p.funcs).take j) (fN p.funcs)[j]=none:=by
   unfold Rz;rw[L3 hn];rfl
  have hS:C0 rs ((fN p.funcs).take j) (fN p.funcs)[j]=PK (dy (uB rs) (lR (fN p.funcs)[j].params) (lR (fN p.funcs)[j].params).length) (Jf rs (fN p.funcs)[j]):=by
   unfold C0;rw[hDn];rfl
  rw[hS]at hb;generalize hq:(fN p.funcs)[j]=f at *;cases hP:dy (uB rs) (lR f.params) (lR f.params).length with
  |some y=>
   rw[hP]at hb;have hr:=fH (f3D hA (Gn ▸ hB) (Gn ▸ hC) (Gn ▸ nV (show dy (C0 rs) (fN p.funcs) (j+1)=some y from hb) _ (by omega)));rw[hr];simp only[hP,zh]at e3;simp[FN.cells,CA,e3,wu,aN,bp,dG.aI,dZ]
  |none=>
   rw[hP]at hb;simp only[hP,zh]at e3;simp[FN.cells,CA,e3,dG.aI,dZ];have M3:(fz rs (lR f.params)).length=(lR f.params).length:=(by simp[fz]);cases hh:f.bg with
   |false=>
    have hT:Jf rs f=none:=(by unfold Jf;rw[hh];rfl);rw[hT]at hb;simp only[Fi,vm,hh,if_false,aaq]at ha;by_cases a:f.name=PT;have ea:(f.name=[109,97,105,110])=True:=eq_true a;by_cases b:lR f.params=[];have l0:(lR f.params).length=0:=(by rw[b];rfl);have hM:fP f=true:=(by simp[fP,a,b,hh]);have hi:=ih (j+1,f.cells,[.int .i64 0,.int .i64 0],[.str f.name,(bF 4 (fz rs (lR f.params))).view,.bool f.bg,.int .i64 0,.int .i64 0,.int .i64 0],b9) ⟨by simp;omega,hb⟩ (by simp;omega);simp only[X8,hM,if_true,FN.cells,hh]at hi;simp[hw,M3,ha,ea,l0,dG.aI];simp only[aes,agx]at hi;exact hi;have l0:¬(lR f.params).length=0:=(by simpa using b);have l1:((lR f.params).length=0)=False:=eq_false l0;have hM:fP f=false:=(by simp[fP,a,b,hh]);have hi:=ih (j+1,f.cells,[.int .i64 0,.int .i64 0],[.str f.name,(bF 4 (fz rs (lR f.params))).view,.bool f.bg,.int .i64 0,.int .i64 0,.int .i64 0],b9) ⟨by simp;omega,hb⟩ (by simp;omega);simp only[X8,hM,if_false,aaq,FN.cells,hh]at hi;simp[hw,M3,ha,ea,l1,dG.aI];simp only[aes,agx]at hi;exact hi;have ea:(f.name=[109,97,105,110])=False:=eq_false a;have hM:fP f=false:=(by simp[fP,a,hh]);have hi:=ih (j+1,f.cells,[.int .i64 0,.int .i64 0],[.str f.name,(bF 4 (fz rs (lR f.params))).view,.bool f.bg,.int .i64 0,.int .i64 0,.int .i64 0],b9) ⟨by simp;omega,hb⟩ (by simp;omega);simp only[X8,hM,if_false,aaq,FN.cells,hh]at hi;simp[hw,ha,ea,dG.aI];simp only[aes,agx]at hi;exact hi
   |true=>
    cases ho:(cz rs f.on f.od).2 with
    |false=>
     have hT:Jf rs f=some f.at_:=(by unfold Jf;rw[hh,ho];rfl);rw[hT]at hb;have hr:=fH (f3D hA (Gn ▸ hB) (Gn ▸ hC) (Gn ▸ nV (show dy (C0 rs) (fN p.funcs) (j+1)=some f.at_ from hb) _ (by omega)));rw[hr];simp[et,ho,e2,wu]
    |true=>
     have hT:Jf rs f=none:=(by unfold Jf;rw[hh,ho];rfl);rw[hT]at hb;simp only[Fi,vm,hh,if_true]at ha;by_cases a:f.name=PT;have ea:(f.name=[109,97,105,110])=True:=eq_true a;by_cases b:lR f.params=[];have l0:(lR f.params).length=0:=(by rw[b];rfl);have hM:fP f=false:=(by simp[fP,a,b,hh]);have hi:=ih (j+1,f.cells,[.int .i64 0,.int .i64 0],[.str f.name,(bF 4 (fz rs (lR f.params))).view,.bool f.bg,.int .i64 (cz rs f.on f.od).1.b,.int .i64 (cz rs f.on f.od).1.r,.int .i64 (cz rs f.on f.od).1.d],(cz rs f.on f.od).1.cells) ⟨by simp;omega,hb⟩ (by simp;omega);simp only[X8,hM,if_false,aaq,FN.cells,hh]at hi;simp[hw,M3,et,ha,ho,ea,l0,dG.aI,dZ];simp only[aes,agx]at hi;exact hi;have l0:¬(lR f.params).length=0:=(by simpa using b);have l1:((lR f.params).length=0)=False:=eq_false l0;have hM:fP f=false:=(by simp[fP,a,b,hh]);have hi:=ih (j+1,f.cells,[.int .i64 0,.int .i64 0],[.str f.name,(bF 4 (fz rs (lR f.params))).view,.bool f.bg,.int .i64 (cz rs f.on f.od).1.b,.int .i64 (cz rs f.on f.od).1.r,.int .i64 (cz rs f.on f.od).1.d],(cz rs f.on f.od).1.cells) ⟨by simp;omega,hb⟩ (by simp;omega);simp only[X8,hM,if_false,aaq,FN.cells,hh]at hi;simp[hw,M3,et,ha,ho,ea,l1,dG.aI,dZ];simp only[aes,agx]at hi;exact hi;have ea:(f.name=[109,97,105,110])=False:=eq_false a;have hM:fP f=false:=(by simp[fP,a,hh]);have hi:=ih (j+1,f.cells,[.int .i64 0,.int .i64 0],[.str f.name,(bF 4 (fz rs (lR f.params))).view,.bool f.bg,.int .i64 (cz rs f.on f.od).1.b,.int .i64 (cz rs f.on f.od).1.r,.int .i64 (cz rs f.on f.od).1.d],(cz rs f.on f.od).1.cells) ⟨by simp;omega,hb⟩ (by simp;omega);simp only[X8,hM,if_false,aaq,FN.cells,hh]at hi;simp[hw,et,ha,ho,ea,dG.aI,dZ];simp only[aes,agx]at hi;exact hi
  have cL:k=(fN p.funcs).length:=by omega
  subst cL;have HD:sN (fN p.funcs) (fN p.funcs).length=Cv (fN p.funcs):=main_eq λk hk=>by
   have:=Fy hD k hk hk;exact(NZ (NZ this).1).1
  have h3:=f3D hA (Gn ▸ hB) (Gn ▸ hC) (Gn ▸ hD);by_cases hm:Cv (fN p.funcs)<0;have hr:Gk p=.ir [wu,.agg [.int .i64 3,.int .i64 0]]:=by
   have:jy p=some 0:=by unfold jy;rw[if_pos hm,h3];rfl
   unfold Gk;rw[this];rfl
  rw[hr];simp[f1,f2,f3,HD,hm,e2,wu];have hr:Gk p=.ir [BI p,.agg [.int .i64 0,.int .i64 0]]:=by
   have:jy p=none:=by unfold jy;rw[if_neg hm,h3]
   unfold Gk;rw[this];rfl
  rw[hr];simp[f1,f2,f3,HD,hm,BI,<-Gn,<-hGG,hGv,<-hRR,hGs,hRs]
end U7
