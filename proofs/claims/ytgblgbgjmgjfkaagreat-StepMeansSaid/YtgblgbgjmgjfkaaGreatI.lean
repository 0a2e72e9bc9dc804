/- Part of a proof. -/
import Derived.Test.YtgblgbgjmgjfkaaGreatA6
import Derived.Test.YtgblgbgjmgjfkaaGreatCode1

open List renaming all_eq_true->ac3,mem_map->ad7,getD_eq_getElem?_getD->aen,getElem?_eq_none->aeQ,all_eq_false->an5,getElem_mem->acH,mem_iff_getElem->aec
open Bool renaming and_eq_true->Ee
set_option maxRecDepth 100000
set_option maxHeartbeats 4000000
namespace dh
open Ax Go
def cJ:AV->Bool
 |.ju _ _=>false|_=>true
variable{v:AV}{s:Nat}{p:List AV->Bool}
theorem bT(h:cJ v=true)(j:bf v=true):v.ai=v:=by cases v<;>simp_all [cJ,bf,AV.ai]
@[simp]theorem G5(v:AV):cJ v.ai=true:=by cases v<;>simp[cJ,AV.ai]
def gH(s:Nat)(p:List AV->Bool)(v:AV):Bool:=cJ v&&cN s v&&(aY v).all p
theorem jJ(h:gH s p v=true):cN s v=true:=by simp_all [gH,Ee]
theorem lR(h:gH s p v=true):∀r∈aY v,p r=true:=by simp_all [gH,Ee,ac3]
theorem kY(h:gH s p v=true):v.ai=v:=by
 have H:=kL (jJ h);simp_all [gH,Ee,bT]
theorem m9{g:Type}{d:List AV->g}{e:g->List AV}(h:gH s p v=true)(U:∀r,p r=true->r=e (d r)):aY v=((aY v).map d).map e:=by
 rw[List.map_map];conv=>lhs;rw[<-List.map_id (aY v)]
 grind [List.map_congr_left,lR]
def sS(n:Int):Bool:=decide (-9223372036854775808<=n)&&decide (n<=9223372036854775807)
structure T3 where
 b:Int
 r:Int
 d:Int
 deriving DecidableEq
abbrev T0:T3:=⟨0,0,0⟩
@[simp]def T3.cells(t:T3):List AV:=[.int .i64 t.b,.int .i64 t.r,.int .i64 t.d]
def G6(r:List AV):Bool:=match r with | [.int .i64 a,.int .i64 b,.int .i64 c]=>sS a&&sS b&&sS c|_=>false
def dT(r:List AV):T3:=match r with | [.int .i64 a,.int .i64 b,.int .i64 c]=>⟨a,b,c⟩|_=>T0
theorem JY(r:List AV)(h:G6 r=true):r=(dT r).cells:=by
 unfold G6 at h;split at h
 rfl
 cases h
def Ar(v:AV):Bool:=gH 3 G6 v
def dn(v:AV):List T3:=(aY v).map dT
theorem lE(h:Ar v=true):aY v=(dn v).map T3.cells:=m9 h JY
theorem oN(h:Ar v=true):v.ai=v:=kY h
@[simp]theorem abQ(v:AV):dn v.ai=dn v:=by simp[dn]
@[simp]theorem TE(h:Ar v=true):cN 3 v=true:=jJ h
@[simp]theorem pz(h:Ar v=true):bf v=true:=kL (TE h)
structure FD where
 name:List UInt8
 t:T3
def FD.cells(f:FD):List AV:=[.str f.name,.int .i64 f.t.b,.int .i64 f.t.r,.int .i64 f.t.d]
def ac7(r:List AV):Bool:=match r with | [.str _,.int .i64 a,.int .i64 b,.int .i64 c]=>sS a&&sS b&&sS c|_=>false
def dF(r:List AV):FD:=match r with | [.str s,.int .i64 a,.int .i64 b,.int .i64 c]=>⟨s,a,b,c⟩|_=>⟨[],T0⟩
theorem ac8(r:List AV)(h:ac7 r=true):r=(dF r).cells:=by
 unfold ac7 at h;split at h
 rfl
 cases h
def Uf(v:AV):Bool:=gH 4 ac7 v
def AE(v:AV):List FD:=(aY v).map dF
theorem Ir(h:Uf v=true):aY v=(AE v).map FD.cells:=m9 h ac8
theorem OI(h:Uf v=true):v.ai=v:=kY h
@[simp]theorem arp(v:AV):AE v.ai=AE v:=by simp[AE]
@[simp]theorem ame(h:Uf v=true):cN 4 v=true:=jJ h
@[simp]theorem Ug(h:Uf v=true):bf v=true:=kL (ame h)
structure RD where
 name:List UInt8
 cF:AV
def RD.cells(r:RD):List AV:=[.str r.name,r.cF]
def Wi(r:List AV):Bool:=match r with | [.str _,f]=>Uf f|_=>false
def dR(r:List AV):RD:=match r with | [.str s,f]=>⟨s,f⟩|_=>⟨[],.aF⟩
theorem ac9(r:List AV)(h:Wi r=true):r=(dR r).cells:=by
 unfold Wi at h;split at h
 rfl
 cases h
def YK(v:AV):Bool:=gH 2 Wi v
def pD(v:AV):List RD:=(aY v).map dR
theorem xI(h:YK v=true):aY v=(pD v).map RD.cells:=m9 h ac9
theorem KD(h:YK v=true):∀r∈pD v,Uf r.cF=true:=by
 intro r H;obtain⟨x,l,rfl⟩:=ad7.1 H;have:=lR h x l;unfold Wi at this
 grind [dR]
theorem OJ(h:YK v=true):v.ai=v:=kY h
@[simp]theorem arq(v:AV):pD v.ai=pD v:=by simp[pD]
@[simp]theorem amf(h:YK v=true):cN 2 v=true:=jJ h
@[simp]theorem KE(h:YK v=true):bf v=true:=kL (amf h)
structure ID where
 op:Int
 a:Int
 b:Int
 c:Int
 n:Int
 args:AV
def ID.cells(i:ID):List AV:=[.int .i64 i.op,.int .i64 i.a,.int .i64 i.b,.int .i64 i.c,.int .i64 i.n,i.args]
def Wj(r:List AV):Bool:=match r with | [.int .i64 _,.int .i64 _,.int .i64 _,.int .i64 _,.int .i64 _,v]=>cJ v&&mK v|_=>false
def dN(r:List AV):ID:=match r with | [.int .i64 a,.int .i64 b,.int .i64 c,.int .i64 d,.int .i64 e,v]=>⟨a,b,c,d,e,v⟩|_=>⟨0,0,0,0,0,.aF⟩
theorem ada(r:List AV)(h:Wj r=true):r=(dN r).cells:=by
 unfold Wj at h;split at h
 rfl
 cases h
def Lx(v:AV):Bool:=gH 6 Wj v
def mF(v:AV):List ID:=(aY v).map dN
theorem Is(h:Lx v=true):aY v=(mF v).map ID.cells:=m9 h ada
theorem KF(h:Lx v=true):∀r∈mF v,cJ r.args=true/\mK r.args=true:=by
 intro r H;obtain⟨x,l,rfl⟩:=ad7.1 H;have:=lR h x l;unfold Wj at this;unfold dN
 grind
theorem zR(h:Lx v=true):v.ai=v:=kY h
@[simp]theorem ars(v:AV):mF v.ai=mF v:=by simp[mF]
@[simp]theorem amg(h:Lx v=true):cN 6 v=true:=jJ h
@[simp]theorem Bu(h:Lx v=true):bf v=true:=kL (amg h)
structure CD where
 params:Int
 vars:AV
 bR:Bool
 res:T3
 jr:AV
def CD.cells(c:CD):List AV:=[.int .i64 c.params,c.vars,.bool c.bR,.int .i64 c.res.b,.int .i64 c.res.r,.int .i64 c.res.d,c.jr]
def Wk(r:List AV):Bool:=match r with | [.int .i64 p,v,.bool _,.int .i64 a,.int .i64 b,.int .i64 c,i]=>sS p&&sS a&&sS b&&sS c&&Ar v&&Lx i|_=>false
def dC(r:List AV):CD:=match r with | [.int .i64 p,v,.bool h,.int .i64 a,.int .i64 b,.int .i64 c,i]=>⟨p,v,h,⟨a,b,c⟩,i⟩|_=>⟨0,.aF,false,T0,.aF⟩
theorem adb(r:List AV)(h:Wk r=true):r=(dC r).cells:=by
 unfold Wk at h;split at h
 rfl
 cases h
def YL(v:AV):Bool:=gH 7 Wk v
def iI(v:AV):List CD:=(aY v).map dC
theorem nJ(h:YL v=true):aY v=(iI v).map CD.cells:=m9 h adb
theorem rC(h:YL v=true):∀r∈iI v,Ar r.vars=true/\Lx r.jr=true:=by
 intro r H;obtain⟨x,l,rfl⟩:=ad7.1 H;have:=lR h x l;unfold Wk at this;unfold dC
 grind
theorem Cq(h:YL v=true):v.ai=v:=kY h
@[simp]theorem art(v:AV):iI v.ai=iI v:=by simp[iI]
@[simp]theorem amh(h:YL v=true):cN 7 v=true:=jJ h
@[simp]theorem Bv(h:YL v=true):bf v=true:=kL (amh h)
structure SD where
 fn:Int
 t:T3
def SD.cells(s:SD):List AV:=[.int .i64 s.fn,.int .i64 s.t.b,.int .i64 s.t.r,.int .i64 s.t.d]
def Wl(r:List AV):Bool:=match r with | [.int .i64 f,.int .i64 a,.int .i64 b,.int .i64 c]=>sS f&&sS a&&sS b&&sS c|_=>false
def dS(r:List AV):SD:=match r with | [.int .i64 f,.int .i64 a,.int .i64 b,.int .i64 c]=>⟨f,a,b,c⟩|_=>⟨0,T0⟩
theorem ade(r:List AV)(h:Wl r=true):r=(dS r).cells:=by
 unfold Wl at h;split at h
 rfl
 cases h
def YM(v:AV):Bool:=gH 4 Wl v
def ox(v:AV):List SD:=(aY v).map dS
theorem zT(h:YM v=true):aY v=(ox v).map SD.cells:=m9 h ade
theorem OK(h:YM v=true):v.ai=v:=kY h
@[simp]theorem aru(v:AV):ox v.ai=ox v:=by simp[ox]
@[simp]theorem ami(h:YM v=true):cN 4 v=true:=jJ h
@[simp]theorem KG(h:YM v=true):bf v=true:=kL (ami h)
structure XD where
 aU:AV
 az:AV
 aR:AV
 aJ:AV
 main:Int
def XD.cells(x:XD):List AV:=[x.aU,x.az,x.aR,x.aJ,.int .i64 x.main]
structure XD.ok (x:XD):Prop where
 aU:YK x.aU=true
 az:Ar x.az=true
 aR:YL x.aR=true
 aJ:YM x.aJ=true
theorem arv(h:Ar v=true):∀t∈dn v,sS t.b=true/\sS t.r=true/\sS t.d=true:=by
 intro r H;obtain⟨x,l,rfl⟩:=ad7.1 H;have:=lR h x l;unfold G6 at this;unfold dT
 grind
def sZ(vars:List T3)(n:Int):T3:=if 0<=n then vars.getD n.toNat T0 else T0
def kA(vars:List T3)(t:T3)(l:List Int):Bool:=l.all (λn=>decide (sZ vars n=t))&&decide (t≠T0)
def zU:T3:=⟨1,0,0⟩
def qB:T3:=⟨2,0,0⟩
end dh
namespace jc
open Ax Go aO dh
theorem ET(w k:Nat)(st:aj):(aZ S).call w k 140 [] st=some (.agg T0.cells,st):=by
 refine bE (sf:=akY) rfl rfl rfl rfl rfl ?_;simp[akY]
def vw(x:XD)(f:Int)(c:CD)(i:ID):AV:=.agg [x.aU,x.az,x.aR,x.aJ,.int .i64 x.main,.int .i64 f,
 .int .i64 c.params,c.vars,.bool c.bR,.int .i64 c.res.b,.int .i64 c.res.r,.int .i64 c.res.d,c.jr,
 .int .i64 i.op,.int .i64 i.a,.int .i64 i.b,.int .i64 i.c,.int .i64 i.n,i.args]
structure VW (x:XD)(c:CD)(i:ID):Prop where
 x:x.ok
 vars:Ar c.vars=true
 jr:Lx c.jr=true
 args:mK i.args=true
 ai1:cJ i.args=true
theorem VW.pure{x:XD}{f:Int}{c:CD}{i:ID}(h:VW x c i):(vw x f c i).aH=true:=by
 have H:=eC (KE h.x.aU);have g:=eC (pz h.x.az);have j:=eC (Bv h.x.aR);have l:=eC (KG h.x.aJ);have V:=eC (pz h.vars);have z:=eC (Bu h.jr);have Y:=eC (eA h.args);simp[vw, *]
theorem VW.sl{x:XD}{c:CD}{i:ID}(h:VW x c i):(bf x.aU=true/\bf x.az=true/\bf x.aR=true/\bf x.aJ=true/\bf c.vars=true/\bf c.jr=true/\bf i.args=true)/\
  x.aU.ai=x.aU/\x.az.ai=x.az/\x.aR.ai=x.aR/\x.aJ.ai=x.aJ/\c.vars.ai=c.vars/\c.jr.ai=c.jr/\i.args.ai=i.args:=
 ⟨⟨KE h.x.aU,pz h.x.az,Bv h.x.aR,KG h.x.aJ,pz h.vars,Bu h.jr,eA h.args⟩,
  OJ h.x.aU,oN h.x.az,Cq h.x.aR,OK h.x.aJ,oN h.vars,zR h.jr,bT h.ai1 (eA h.args)⟩
theorem Bm(w g:Nat)(x:XD)(f:Int)(c:CD)(i:ID)(n:Int)(st:aj)(h:VW x c i) :
  (aZ S).call w g 173 [vw x f c i,.int .i64 n] st=some (.agg (sZ (dn c.vars) n).cells,st):=by
 refine bE (sf:=aa9) rfl rfl (by simp[h.pure]) rfl (by simp) ?_;have H:=h.sl;have p:=h.vars;by_cases r:n<0;have e:sZ (dn c.vars) n=T0:=by unfold sZ;rw[U (by omega)]
 simp[aa9,vw,H,r,e,ET];obtain⟨k,rfl⟩:∃k:Nat,n=k:=⟨n.toNat,by omega⟩;by_cases j:k<(dn c.vars).length;have e:sZ (dn c.vars) k=(dn c.vars)[k]:=by simp[sZ,aen,j]
 have v:¬((dn c.vars).length:Int)<=(k:Int):=by omega
 simp[aa9,vw,H,r,p,lE p,e,j,v];have e:sZ (dn c.vars) k=T0:=by simp[sZ,aen,aeQ (Nat.le_of_not_lt j)]
 have v:((dn c.vars).length:Int)<=(k:Int):=by omega
 simp[aa9,vw,H,r,p,lE p,e,v,ET]
theorem kI(W v:Nat)(x:XD)(f:Int)(c:CD)(i:ID)(t:T3)(l:AV)(st:aj)(h:VW x c i)(H:mK l=true)(q:(dI l).length<1000000000) :
  (aZ S).call W v 174 [vw x f c i,.agg t.cells,l] st=some (.bool (kA (dn c.vars) t (dI l)),st):=by
 have o:=λn=>Bm 0 0 x f c i n [] h;refine bE (sf:=akV) rfl rfl (by simp[h.pure,H]) rfl (by simp) ?_;have m:=h.sl;simp[akV,vw,m,H,cY H];simp only[vw]at o;refine bN VF.eq_1 (λk:Nat=>⟨[(3,.fp 0 0),(4,.fp 1 0),(9,.val l),(10,.val (.int .i64 (dI l).length)),(11,.val (.int .i64 k))],[(vw x f c i).cells,t.cells],[]⟩) (λk=>k<=(dI l).length/\∀j (X:j<(dI l).length),j<k->sZ (dn c.vars) (dI l)[j]=t) (λk=>(dI l).length-k) 0 (by simp[vw]) ⟨by omega,λ_ _ h=>by omega⟩ ?_;intro k ⟨B,s⟩ I;by_cases F:k<(dI l).length;have z:=wk k (by omega);have p:=o (dI l)[k];by_cases U:sZ (dn c.vars) (dI l)[k]=t;simp[vw,m,H,cY H,F,aD,aC,p,U,z];exact I (k+1) ⟨by omega,λj X D=>by
  rcases Nat.lt_or_ge j k with h|h;exact s j X h;have:j=k:=by omega
  subst this;exact U⟩ (by omega)
 have g:(decide ((sZ (dn c.vars) (dI l)[k]).b=t.b)&&(decide ((sZ (dn c.vars) (dI l)[k]).r=t.r)&&decide ((sZ (dn c.vars) (dI l)[k]).d=t.d)))=false:=by
  rw[Bool.eq_false_iff];intro M;simp only[Ee,aA]at M;apply U;cases C:sZ (dn c.vars) (dI l)[k];cases t;simp_all
 have y:kA (dn c.vars) t (dI l)=false:=by
  unfold kA;rw[Bool.and_eq_false_iff];left;rw[an5];exact⟨_,acH F,by simpa using U⟩
 simp[vw,m,H,cY H,F,aD,aC,p,g,y];have G:k=(dI l).length:=by omega
 have L:(dI l).all (λn=>decide (sZ (dn c.vars) n=t))=true:=by
  rw[ac3];intro n q;obtain⟨j,X,rfl⟩:=aec.1 q;simpa using s j X (by omega)
 have w:kA (dn c.vars) t (dI l) = !(decide (t.b=0)&&(decide (t.r=0)&&decide (t.d=0))):=by
  unfold kA;rw[L];cases t;simp
 simp[G,aD,aC,ET,w]
end jc
namespace jc
open Ax Go aO dh
variable{x:XD}{f:Int}{c:CD}{i:ID}{g:Type}
theorem is1(w k:Nat)(t:T3)(a:Int)(st:aj)(h:VW x c i) :
  (aZ S).call w k 174 [vw x f c i,.agg t.cells,.dV 1 [[.int .i64 a]]] st=some (.bool (kA (dn c.vars) t [a]),st):=by
 have:=kI w k x f c i t (.dV 1 [[.int .i64 a]]) st h (by simp) (by simp);simp_all
theorem Cr(w k:Nat)(l:AV)(st:aj)(h:VW x c i)(g:mK l=true)(j:(dI l).length<1000000000) :
  (aZ S).call w k 171 [vw x f c i,l] st=some (.bool (kA (dn c.vars) zU (dI l)),st):=by
 have H:=kI 0 0 x f c i zU l [] h g j;simp only[vw,T3.cells,zU]at H;have m:=h.sl;refine bE (sf:=akU) rfl rfl (by simp[h.pure,g]) rfl (by simp) ?_;simp[akU,vw,m,H,zU]
theorem KH(w k:Nat)(l:AV)(st:aj)(h:VW x c i)(g:mK l=true)(j:(dI l).length<1000000000) :
  (aZ S).call w k 172 [vw x f c i,l] st=some (.bool (kA (dn c.vars) qB (dI l)),st):=by
 have H:=kI 0 0 x f c i qB l [] h g j;simp only[vw,T3.cells,qB]at H;have m:=h.sl;refine bE (sf:=akz) rfl rfl (by simp[h.pure,g]) rfl (by simp) ?_;simp[akz,vw,m,H,qB]
def HU(vars:List T3)(a I:Int):Bool:=decide (0<(sZ vars a).d)&&kA vars ⟨(sZ vars a).b,(sZ vars a).r,(sZ vars a).d-1⟩ [I]
theorem YN{v:AV}(h:Ar v=true)(n:Int):sS (sZ (dn v) n).d=true:=by
 unfold sZ;split;rw[aen];by_cases j:n.toNat<(dn v).length;rw[List.getElem?_eq_getElem j];exact(arv h _ (acH j)).2.2;rw[aeQ (by omega)];rfl
 rfl
theorem KI(w k:Nat)(a I:Int)(st:aj)(h:VW x c i) :
  (aZ S).call w k 177 [vw x f c i,.int .i64 a,.int .i64 I] st=some (.bool (HU (dn c.vars) a I),st):=by
 have H:=λn=>Bm 0 0 x f c i n [] h;have g:=λt n=>is1 0 0 (f:=f) t n [] h;have l:=YN h.vars a;simp only[vw,T3.cells]at H g;have j:=h.sl;refine bE (sf:=af7) rfl rfl (by simp[h.pure]) rfl (by simp) ?_;unfold HU;generalize X:sZ (dn c.vars) a=t at *;have K:=H a;rw[X]at K;by_cases m:t.d<=0;have R:¬0<t.d:=by omega
 simp[af7,vw,j,K,m,R];have R:0<t.d:=by omega
 have o:IntKind.i64.wrap (t.d-1)=t.d-1:=by
  simp only[sS,Ee,aA]at l;rw[dY]<;>omega
 have J:=g ⟨t.b,t.r,t.d-1⟩ I;simp only at J;simp[af7,vw,j,K,m,R,o,J]
theorem adf(w k:Nat)(n:Int)(st:aj)(h:VW x c i) :
  (aZ S).call w k 184 [vw x f c i,.int .i64 n] st=some (.bool (decide (0<=n)&&decide (n<(mF c.jr).length)),st):=by
 have j:=h.sl;have H:=h.jr;refine bE (sf:=af9) rfl rfl (by simp[h.pure]) rfl (by simp) ?_;by_cases r:0<=n;simp[af9,vw,j,r,Is H];simp[af9,vw,j,r]
def pU{g:Type}(l:List g)(n:Int):Option g:=if 0<=n then l[n.toNat]? else none
theorem mA{l:List g}{n:Int}{y:g}(h:pU l n=some y):∃k:Nat,n=k/\∃j:k<l.length,l[k]=y:=by
 grind [pU]
theorem sF{l:List g}{n:Int}(h:pU l n=none):n<0\/(0<=n/\(l.length:Int)<=n):=by
 grind [pU]
def OL(U vars:List T3)(n a:Int):Bool:=match pU U n with|some t=>kA vars t [a]|none=>false
theorem YO(w l:Nat)(n a:Int)(st:aj)(h:VW x c i) :
  (aZ S).call w l 185 [vw x f c i,.int .i64 n,.int .i64 a] st=some (.bool (OL (dn x.az) (dn c.vars) n a),st):=by
 have H:=λt n=>is1 0 0 (f:=f) t n [] h;simp only[vw,T3.cells]at H;have j:=h.sl;have o:=h.x.az;refine bE (sf:=abw) rfl rfl (by simp[h.pure]) rfl (by simp) ?_;unfold OL;cases O:pU (dn x.az) n with
 |none=>
  rcases sF O with r|⟨r,p⟩;have D:¬0<=n:=by omega
  simp[abw,vw,j,D,aD,aC];have g:¬n<((dn x.az).length:Int):=by omega
  simp[abw,vw,j,r,g,o,lE o,aD,aC]
 |some t=>
  obtain⟨k,rfl,m,rfl⟩:=mA O;have r:(0:Int)<=(k:Int):=by omega
  have J:=H (dn x.az)[k] a;simp[abw,vw,j,m,o,lE o,aD,aC,J]
def HV(S:List SD)(f:Int)(vars:List T3)(n a:Int):Bool:=match pU S n with|some s=>decide (s.fn=f)&&kA vars s.t [a]|none=>false
theorem OD(w p:Nat)(n a:Int)(st:aj)(h:VW x c i) :
  (aZ S).call w p 178 [vw x f c i,.int .i64 n,.int .i64 a] st=some (.bool (HV (ox x.aJ) f (dn c.vars) n a),st):=by
 have g:=λt n=>is1 0 0 (f:=f) t n [] h;simp only[vw,T3.cells]at g;have j:=h.sl;have o:=h.x.aJ;refine bE (sf:=XK) rfl rfl (by simp[h.pure]) rfl (by simp) ?_;unfold HV;cases O:pU (ox x.aJ) n with
 |none=>
  rcases sF O with r|⟨r,q⟩;have D:¬0<=n:=by omega
  simp[XK,vw,j,D,aD,aC];have m:¬n<((ox x.aJ).length:Int):=by omega
  simp[XK,vw,j,r,m,o,zT o,aD,aC]
 |some s=>
  obtain⟨k,rfl,l,rfl⟩:=mA O;have J:=g (ox x.aJ)[k].t a;by_cases H:(ox x.aJ)[k].fn=f;simp[XK,vw,j,l,o,zT o,aD,aC,J,SD.cells,H];simp[XK,vw,j,l,o,zT o,aD,aC,SD.cells,H]
def Ly(rs:List RD)(vars:List T3)(a k v:Int):Bool:=decide ((sZ vars a).b=3)&&decide ((sZ vars a).d=0)&&match pU rs (sZ vars a).r with
 |some r=>(match pU (AE r.cF) k with|some fd=>kA vars fd.t [v]|none=>false)
 |none=>false
theorem adg(W G:Nat)(a k v:Int)(st:aj)(h:VW x c i) :
  (aZ S).call W G 176 [vw x f c i,.int .i64 a,.int .i64 k,.int .i64 v] st=some (.bool (Ly (pD x.aU) (dn c.vars) a k v),st):=by
 have y:=λn=>Bm 0 0 x f c i n [] h;have B:=λt n=>is1 0 0 (f:=f) t n [] h;simp only[vw,T3.cells]at B y;have H:=h.sl;have z:=h.x.aU;refine bE (sf:=Ny) rfl rfl (by simp[h.pure]) rfl (by simp) ?_;unfold Ly;have K:=y a;generalize O:sZ (dn c.vars) a=t at *;by_cases l:t.b=3;by_cases o:t.d=0;cases E:pU (pD x.aU) t.r with
 |none=>
  rcases sF E with w|⟨w,I⟩;simp[Ny,vw,H,K,l,o,w];have D:¬t.r<0:=by omega
  simp[Ny,vw,H,K,l,o,D,I,xI z]
 |some r=>
  obtain⟨j,X,Y,rfl⟩:=mA E;have D:¬t.r<0:=by omega
  have g:¬((pD x.aU).length:Int)<=t.r:=by omega
  have m:=KD z _ (acH Y);have J:=Ug m;have T:=OI m;simp only;cases C:pU (AE (pD x.aU)[j].cF) k with
  |none=>
   rcases sF C with F|⟨F,P⟩;have p:¬0<=k:=(by omega);rw[X]at K D g;simp[Ny,vw,H,K,l,o,D,g,z,xI z,Y,RD.cells,aD,aC,p,T];have s:¬k<((AE (pD x.aU)[j].cF).length:Int):=(by omega);rw[X]at K D g;simp[Ny,vw,H,K,l,o,D,g,z,xI z,Y,RD.cells,aD,aC,F,s,T,m,Ir m]
  |some N=>
   obtain⟨q,rfl,L,rfl⟩:=mA C;have M:=B (AE (pD x.aU)[j].cF)[q].t v;rw[X]at K D g;simp[Ny,vw,H,K,l,o,D,g,z,xI z,Y,RD.cells,aD,aC,L,T,m,Ir m,FD.cells,M]
 simp[Ny,vw,H,K,l,o];simp[Ny,vw,H,K,l]
end jc
namespace jc
open Ax Go aO dh
def jM(a b c n:Bool)(i:ID):Bool:=(a||decide (i.a=0))&&(b||decide (i.b=0))&&(c||decide (i.c=0))&&(n||decide (i.n=0))&&(decide (i.op=13)||decide ((dI i.args).length=0))
def Bw(i:ID):AV:=.agg [.int .i64 i.op,.int .i64 i.a,.int .i64 i.b,.int .i64 i.c,.int .i64 i.n,i.args]
theorem OM(w o:Nat)(i:ID)(a b c n:Bool)(st:aj)(h:mK i.args=true)(x:cJ i.args=true) :
  (aZ S).call w o 170 [Bw i,.bool a,.bool b,.bool c,.bool n] st=some (.bool (jM a b c n i),st):=by
 have j:=eA h;have p:=bT x j;refine bE (sf:=gY) rfl rfl (by simp[Bw,j]) rfl (by simp) ?_;unfold jM Bw;cases a with
 |true=>
  cases b with
  |true=>
   cases c with
   |true=>
    cases n with
    |true=>
     by_cases z:i.op=13;simp[gY,j,z];by_cases m:((dI i.args).length:Int)=0;have N:(dI i.args).length=0:=(by omega);simp[gY,j,p,z,N,cY h];have N:¬(dI i.args).length=0:=(by omega);simp[gY,j,p,z,N,cY h]
    |false=>
     by_cases g:i.n=0
     skip
     by_cases z:i.op=13;simp[gY,j,g,z];by_cases m:((dI i.args).length:Int)=0;have N:(dI i.args).length=0:=(by omega);simp[gY,j,p,g,z,N,cY h];have N:¬(dI i.args).length=0:=(by omega);simp[gY,j,p,g,z,N,cY h];simp[gY,j,g]
   |false=>
    by_cases H:i.c=0
    skip
    cases n with
    |true=>
     by_cases z:i.op=13;simp[gY,j,H,z];by_cases m:((dI i.args).length:Int)=0;have N:(dI i.args).length=0:=(by omega);simp[gY,j,p,H,z,N,cY h];have N:¬(dI i.args).length=0:=(by omega);simp[gY,j,p,H,z,N,cY h]
    |false=>
     by_cases g:i.n=0
     skip
     by_cases z:i.op=13;simp[gY,j,H,g,z];by_cases m:((dI i.args).length:Int)=0;have N:(dI i.args).length=0:=(by omega);simp[gY,j,p,H,g,z,N,cY h];have N:¬(dI i.args).length=0:=(by omega);simp[gY,j,p,H,g,z,N,cY h];simp[gY,j,H,g]
    simp[gY,j,H]
  |false=>
   by_cases l:i.b=0
   skip
   cases c with
   |true=>
    cases n with
    |true=>
     by_cases z:i.op=13;simp[gY,j,l,z];by_cases m:((dI i.args).length:Int)=0;have N:(dI i.args).length=0:=(by omega);simp[gY,j,p,l,z,N,cY h];have N:¬(dI i.args).length=0:=(by omega);simp[gY,j,p,l,z,N,cY h]
    |false=>
     by_cases g:i.n=0
     skip
     by_cases z:i.op=13;simp[gY,j,l,g,z];by_cases m:((dI i.args).length:Int)=0;have N:(dI i.args).length=0:=(by omega);simp[gY,j,p,l,g,z,N,cY h];have N:¬(dI i.args).length=0:=(by omega);simp[gY,j,p,l,g,z,N,cY h];simp[gY,j,l,g]
   |false=>
    by_cases H:i.c=0
    skip
    cases n with
    |true=>
     by_cases z:i.op=13;simp[gY,j,l,H,z];by_cases m:((dI i.args).length:Int)=0;have N:(dI i.args).length=0:=(by omega);simp[gY,j,p,l,H,z,N,cY h];have N:¬(dI i.args).length=0:=(by omega);simp[gY,j,p,l,H,z,N,cY h]
    |false=>
     by_cases g:i.n=0
     skip
     by_cases z:i.op=13;simp[gY,j,l,H,g,z];by_cases m:((dI i.args).length:Int)=0;have N:(dI i.args).length=0:=(by omega);simp[gY,j,p,l,H,g,z,N,cY h];have N:¬(dI i.args).length=0:=(by omega);simp[gY,j,p,l,H,g,z,N,cY h];simp[gY,j,l,H,g]
    simp[gY,j,l,H]
   simp[gY,j,l]
 |false=>
  by_cases k:i.a=0
  skip
  cases b with
  |true=>
   cases c with
   |true=>
    cases n with
    |true=>
     by_cases z:i.op=13;simp[gY,j,k,z];by_cases m:((dI i.args).length:Int)=0;have N:(dI i.args).length=0:=(by omega);simp[gY,j,p,k,z,N,cY h];have N:¬(dI i.args).length=0:=(by omega);simp[gY,j,p,k,z,N,cY h]
    |false=>
     by_cases g:i.n=0
     skip
     by_cases z:i.op=13;simp[gY,j,k,g,z];by_cases m:((dI i.args).length:Int)=0;have N:(dI i.args).length=0:=(by omega);simp[gY,j,p,k,g,z,N,cY h];have N:¬(dI i.args).length=0:=(by omega);simp[gY,j,p,k,g,z,N,cY h];simp[gY,j,k,g]
   |false=>
    by_cases H:i.c=0
    skip
    cases n with
    |true=>
     by_cases z:i.op=13;simp[gY,j,k,H,z];by_cases m:((dI i.args).length:Int)=0;have N:(dI i.args).length=0:=(by omega);simp[gY,j,p,k,H,z,N,cY h];have N:¬(dI i.args).length=0:=(by omega);simp[gY,j,p,k,H,z,N,cY h]
    |false=>
     by_cases g:i.n=0
     skip
     by_cases z:i.op=13;simp[gY,j,k,H,g,z];by_cases m:((dI i.args).length:Int)=0;have N:(dI i.args).length=0:=(by omega);simp[gY,j,p,k,H,g,z,N,cY h];have N:¬(dI i.args).length=0:=(by omega);simp[gY,j,p,k,H,g,z,N,cY h];simp[gY,j,k,H,g]
    simp[gY,j,k,H]
  |false=>
   by_cases l:i.b=0
   skip
   cases c with
   |true=>
    cases n with
    |true=>
     by_cases z:i.op=13;simp[gY,j,k,l,z];by_cases m:((dI i.args).length:Int)=0;have N:(dI i.args).length=0:=(by omega);simp[gY,j,p,k,l,z,N,cY h];have N:¬(dI i.args).length=0:=(by omega);simp[gY,j,p,k,l,z,N,cY h]
    |false=>
     by_cases g:i.n=0
     skip
     by_cases z:i.op=13;simp[gY,j,k,l,g,z];by_cases m:((dI i.args).length:Int)=0;have N:(dI i.args).length=0:=(by omega);simp[gY,j,p,k,l,g,z,N,cY h];have N:¬(dI i.args).length=0:=(by omega);simp[gY,j,p,k,l,g,z,N,cY h];simp[gY,j,k,l,g]
   |false=>
    by_cases H:i.c=0
    skip
    cases n with
    |true=>
     by_cases z:i.op=13;simp[gY,j,k,l,H,z];by_cases m:((dI i.args).length:Int)=0;have N:(dI i.args).length=0:=(by omega);simp[gY,j,p,k,l,H,z,N,cY h];have N:¬(dI i.args).length=0:=(by omega);simp[gY,j,p,k,l,H,z,N,cY h]
    |false=>
     by_cases g:i.n=0
     skip
     by_cases z:i.op=13;simp[gY,j,k,l,H,g,z];by_cases m:((dI i.args).length:Int)=0;have N:(dI i.args).length=0:=(by omega);simp[gY,j,p,k,l,H,g,z,N,cY h];have N:¬(dI i.args).length=0:=(by omega);simp[gY,j,p,k,l,H,g,z,N,cY h];simp[gY,j,k,l,H,g]
    simp[gY,j,k,l,H]
   simp[gY,j,k,l]
  simp[gY,j,k]
end jc
namespace jc
open Ax Go aO dh
def EU(i:ID):Bool:=
 if i.op=1\/i.op=11\/i.op=19\/i.op=20 then jM true false false true i else
 if i.op=2\/i.op=14\/i.op=15\/i.op=18 then jM true false false false i else
 if i.op=3\/i.op=10 then jM true true false false i else
 if i.op=5\/i.op=12 then jM true true false true i else
 if i.op=6\/i.op=7\/i.op=8\/i.op=9 then jM true true true false i else
 if i.op=4 then jM true true true true i else
 if i.op=13 then jM true false true false i else
 if i.op=16 then jM false false false true i else
 if i.op=17 then jM true false true true i else
 false
theorem ag4(W K:Nat)(i:ID)(st:aj)(J:mK i.args=true)(E:cJ i.args=true) :
  (aZ S).call W K 162 [Bw i] st=some (.bool (EU i),st):=by
 have j:=eA J;have p:=bT E j;have o:=λop x y z m a b c n=>OM 0 0 ⟨op,x,y,z,m,i.args⟩ a b c n [] J E;simp only[Bw]at o;refine bE (sf:=wg) rfl rfl (by simp[Bw,j]) rfl (by simp) ?_;unfold EU;unfold Bw;by_cases H:i.op=1;simp[wg,j,p,o,jM,H];by_cases t:i.op=11;simp[wg,j,p,o,jM,t];by_cases F:i.op=19;simp[wg,j,p,o,jM,F];by_cases G:i.op=20;simp[wg,j,p,o,jM,G];by_cases r:i.op=2;simp[wg,j,p,o,jM,r];by_cases k:i.op=14;simp[wg,j,p,o,jM,k];by_cases h:i.op=15;simp[wg,j,p,o,jM,h];by_cases g:i.op=18;simp[wg,j,p,o,jM,g];by_cases s:i.op=3;simp[wg,j,p,o,jM,s];by_cases D:i.op=10;simp[wg,j,p,o,jM,D];by_cases V:i.op=5;simp[wg,j,p,o,jM,V];by_cases T:i.op=12;simp[wg,j,p,o,jM,T];by_cases w:i.op=6;simp[wg,j,p,o,jM,w];by_cases Y:i.op=7;simp[wg,j,p,o,jM,Y];by_cases B:i.op=8;simp[wg,j,p,o,jM,B];by_cases I:i.op=9;simp[wg,j,p,o,jM,I];by_cases v:i.op=4;simp[wg,j,p,o,jM,v];by_cases C:i.op=13;simp[wg,j,p,o,jM,C];by_cases l:i.op=16;simp[wg,j,p,o,jM,l];by_cases q:i.op=17;simp[wg,j,p,o,jM,q];simp[wg,j,H,t,F,G,r,k,h,g,s,D,V,T,w,Y,B,I,v,C,l,q]
end jc
namespace jc
open Ax Go aO dh
variable{x:XD}{c:CD}{i:ID}{f:Int}
theorem VW.any(h:VW x c i)(p q r s t:Int):VW x c ⟨p,q,r,s,t,i.args⟩:=⟨h.x,h.vars,h.jr,h.args,h.ai1⟩
theorem ai3(w k:Nat)(a:Int)(st:aj)(h:VW x c i) :
  (aZ S).call w k 171 [vw x f c i,.dV 1 [[.int .i64 a]]] st=some (.bool (kA (dn c.vars) zU [a]),st):=by
 have:=Cr w k (f:=f) (.dV 1 [[.int .i64 a]]) st h (by simp) (by simp);simp_all
theorem ai4(w k:Nat)(a b:Int)(st:aj)(h:VW x c i) :
  (aZ S).call w k 171 [vw x f c i,.dV 1 [[.int .i64 a],[.int .i64 b]]] st=some (.bool (kA (dn c.vars) zU [a,b]),st):=by
 have:=Cr w k (f:=f) (.dV 1 [[.int .i64 a],[.int .i64 b]]) st h (by simp) (by simp);simp_all
theorem arw(w k:Nat)(a b d:Int)(st:aj)(h:VW x c i) :
  (aZ S).call w k 171 [vw x f c i,.dV 1 [[.int .i64 a],[.int .i64 b],[.int .i64 d]]] st=some (.bool (kA (dn c.vars) zU [a,b,d]),st):=by
 have:=Cr w k (f:=f) (.dV 1 [[.int .i64 a],[.int .i64 b],[.int .i64 d]]) st h (by simp) (by simp);simp_all
theorem Uh(w k:Nat)(a:Int)(st:aj)(h:VW x c i) :
  (aZ S).call w k 172 [vw x f c i,.dV 1 [[.int .i64 a]]] st=some (.bool (kA (dn c.vars) qB [a]),st):=by
 have:=KH w k (f:=f) (.dV 1 [[.int .i64 a]]) st h (by simp) (by simp);simp_all
theorem amj(w k:Nat)(a b:Int)(st:aj)(h:VW x c i) :
  (aZ S).call w k 172 [vw x f c i,.dV 1 [[.int .i64 a],[.int .i64 b]]] st=some (.bool (kA (dn c.vars) qB [a,b]),st):=by
 have:=KH w k (f:=f) (.dV 1 [[.int .i64 a],[.int .i64 b]]) st h (by simp) (by simp);simp_all
theorem amk(w k:Nat)(a b d:Int)(st:aj)(h:VW x c i) :
  (aZ S).call w k 172 [vw x f c i,.dV 1 [[.int .i64 a],[.int .i64 b],[.int .i64 d]]] st=some (.bool (kA (dn c.vars) qB [a,b,d]),st):=by
 have:=KH w k (f:=f) (.dV 1 [[.int .i64 a],[.int .i64 b],[.int .i64 d]]) st h (by simp) (by simp);simp_all
theorem arx(w k:Nat)(n a:Int)(st:aj)(h:VW x c i) :
  (aZ S).call w k 174 [vw x f c i,.agg (sZ (dn c.vars) n).cells,.dV 1 [[.int .i64 a]]] st=some (.bool (kA (dn c.vars) (sZ (dn c.vars) n) [a]),st):=is1 w k _ a st h
def pJ(vs:List T3)(i:ID):Bool:=
 if i.n=14\/i.n=15\/i.n=16\/i.n=17\/i.n=18 then kA vs zU [i.a,i.b,i.c] else
 if i.n=19\/i.n=20 then kA vs qB [i.a]&&kA vs zU [i.b,i.c] else
 if i.n=21\/i.n=22 then kA vs qB [i.a]&&kA vs (sZ vs i.b) [i.c] else
 if i.n=23\/i.n=24 then kA vs qB [i.a,i.b,i.c] else false
theorem Ui(W J:Nat)(st:aj)(h:VW x c i) :
  (aZ S).call W J 175 [vw x f c i] st=some (.bool (pJ (dn c.vars) i),st):=by
 have j:=h.sl;have k:=λp q r s t a b=>ai4 0 0 (f:=f) (i:=⟨p,q,r,s,t,i.args⟩) a b [] (h.any p q r s t);have H:=λp q r s t a b d=>arw 0 0 (f:=f) (i:=⟨p,q,r,s,t,i.args⟩) a b d [] (h.any p q r s t);have l:=λp q r s t a=>Uh 0 0 (f:=f) (i:=⟨p,q,r,s,t,i.args⟩) a [] (h.any p q r s t);have g:=λp q r s t a b d=>amk 0 0 (f:=f) (i:=⟨p,q,r,s,t,i.args⟩) a b d [] (h.any p q r s t);have v:=λp q r s t n a=>arx 0 0 (f:=f) (i:=⟨p,q,r,s,t,i.args⟩) n a [] (h.any p q r s t);have w:=λp q r s t n=>Bm 0 0 x f c ⟨p,q,r,s,t,i.args⟩ n [] (h.any p q r s t);simp only[vw,T3.cells]at H k g l v w;refine bE (sf:=Ap) rfl rfl (by simp[h.pure]) rfl (by simp) ?_;by_cases z:i.n=14
 skip
 simp[Ap,vw,j,H,pJ,z]
 skip
 by_cases D:i.n=15
 skip
 simp[Ap,vw,j,H,pJ,D]
 skip
 by_cases y:i.n=16
 skip
 simp[Ap,vw,j,H,pJ,y]
 skip
 by_cases B:i.n=17
 skip
 simp[Ap,vw,j,H,pJ,B]
 skip
 by_cases C:i.n=18
 skip
 simp[Ap,vw,j,H,pJ,C]
 skip
 by_cases F:i.n=19
 skip
 cases E:kA (dn c.vars) qB [i.a] with
 |true=>
  simp[Ap,vw,j,k,l,pJ,F,E]
 |false=>
  simp[Ap,vw,j,l,pJ,F,E]
 skip
 by_cases G:i.n=20
 skip
 cases E:kA (dn c.vars) qB [i.a] with
 |true=>
  simp[Ap,vw,j,k,l,pJ,G,E]
 |false=>
  simp[Ap,vw,j,l,pJ,G,E]
 skip
 by_cases T:i.n=21
 skip
 cases E:kA (dn c.vars) qB [i.a] with
 |true=>
  simp[Ap,aD,aC,vw,j,l,v,w,pJ,T,E]
 |false=>
  simp[Ap,aD,aC,vw,j,l,pJ,T,E]
 skip
 by_cases o:i.n=22
 skip
 cases E:kA (dn c.vars) qB [i.a] with
 |true=>
  simp[Ap,aD,aC,vw,j,l,v,w,pJ,o,E]
 |false=>
  simp[Ap,aD,aC,vw,j,l,pJ,o,E]
 skip
 by_cases I:i.n=23
 skip
 simp[Ap,vw,j,g,pJ,I]
 skip
 by_cases m:i.n=24
 skip
 simp[Ap,vw,j,g,pJ,m]
 skip
 simp[Ap,vw,j,pJ,z,D,y,B,C,F,G,T,o,I,m]
end jc
namespace jc
open Ax Go aO dh
def adh(vs:List T3)(i:ID)(g:CD):Bool:=decide (((dI i.args).length:Int)=g.params)&&decide (g.params<=(dn g.vars).length) &&
  ((dI i.args).zip (dn g.vars)).all (λp=>kA vs p.2 [p.1])&&(decide (i.a = -1)||g.bR&&kA vs g.res [i.a])
def LA(C:List CD)(vs:List T3)(i:ID):Bool:=match pU C i.c with
 |none=>false|some g=>adh vs i g
def adi{g h:Type}(p:g->h->Bool)(l:List g)(m:List h)(k:Nat):Prop:=∀j (H:j<l.length)(n:j<m.length),j<k->p l[j] m[j]=true
variable{g:Type}
theorem YP{j:Type}{p:g->j->Bool}{l:List g}{m:List j}:adi p l m 0:=λ_ _ _ h=>au h (by omega)
theorem YQ{n:Type}{p:g->n->Bool}{l:List g}{m:List n}{k:Nat}(h:adi p l m k)(H:k<l.length)(q:k<m.length)(r:p l[k] m[k]=true):adi p l m (k+1):=by
 intro j J o X;rcases Nat.lt_or_ge j k with U|U;exact h j J o U
 grind
theorem adj{k:Type}{p:g->k->Bool}{l:List g}{m:List k}(h:adi p l m l.length):(l.zip m).all (λq=>p q.1 q.2)=true:=by
 rw[ac3];intro q o;obtain⟨j,X,rfl⟩:=aec.1 o;have H:j<l.length:=by grind
 have n:j<m.length:=by grind
 simpa using h j H n H
theorem Uj{h:Type}{p:g->h->Bool}{l:List g}{m:List h}{k:Nat}(H:k<l.length)(n:k<m.length)(j:p l[k] m[k]=false):(l.zip m).all (λq=>p q.1 q.2)=false:=by
 rw[an5];refine⟨(l[k],m[k]),?_,by simp[j]⟩;rw[aec];exact⟨k,by simp;omega,by simp⟩
theorem xm(wl ah:Nat){x:XD}{f:Int}{c:CD}{i:ID}(st:aj)(h:VW x c i)(hb:∀g∈iI x.aR,(dn g.vars).length<1000000000) :
  (aZ S).call wl ah 183 [vw x f c i] st=some (.bool (LA (iI x.aR) (dn c.vars) i),st):=by
 have j:=h.sl;have o:=h.x.aR;have L:=h.args;have N:=λt a=>is1 0 0 (f:=f) t a [] h;have X:=λ(g:CD) a=>is1 0 0 (f:=f) g.res a [] h;simp only[vw,T3.cells]at N X;refine bE (sf:=Tq) rfl rfl (by simp[h.pure]) rfl (by simp) ?_;unfold LA;cases R:pU (iI x.aR) i.c with
 |none=>
  rcases sF R with K|⟨K,Z⟩;simp[Tq,vw,j,K];have D:¬i.c<0:=by omega
  simp[Tq,vw,j,D,Z,o,nJ o]
 |some g=>
  obtain⟨k,s,G,rfl⟩:=mA R;have D:¬i.c<0:=by omega
  have v:¬((iI x.aR).length:Int)<=i.c:=by omega
  have Q:=acH G;have I:=(rC o _ Q).1;have B:=pz I;have H:=oN I;have O:=(rC o _ Q).2;have z:=Bu O;have w:=zR O;have Sh:=hb _ Q;generalize l:(iI x.aR)[k]=g at *;rw[s]at D v;unfold adh;by_cases C:((dI i.args).length:Int)=g.params;by_cases V:g.params<=(dn g.vars).length;have m:¬((dn g.vars).length:Int)<g.params:=by omega
  simp[Tq,vw,j,D,v,s,G,o,nJ o,CD.cells,L,cY L,C,H,z,w,I,lE I,V,m,l]
  skip
  refine bN Vt.eq_1 (λk:Nat=>⟨[(1,.fp 0 0),(3,.fp 1 0),(4,.fp 2 0),(43,.val i.args),(44,.val (.int .i64 g.params)),(45,.val (.int .i64 k))],
   [[x.aU,x.az,x.aR,x.aJ,.int .i64 x.main,.int .i64 f,.int .i64 c.params,c.vars,.bool c.bR,.int .i64 c.res.b,.int .i64 c.res.r,.int .i64 c.res.d,c.jr,
    .int .i64 i.op,.int .i64 i.a,.int .i64 i.b,.int .i64 i.c,.int .i64 i.n,i.args],
    [.int .i64 i.op,.int .i64 i.a,.int .i64 i.b,.int .i64 i.c,.int .i64 i.n,i.args],
    [.int .i64 g.params,g.vars,.bool g.bR,.int .i64 g.res.b,.int .i64 g.res.r,.int .i64 g.res.d,g.jr]],[]⟩)
   (λk=>k<=(dI i.args).length/\adi (λa b=>kA (dn c.vars) b [a]) (dI i.args) (dn g.vars) k) (λk=>(dI i.args).length-k) 0 (by simp[s]) ⟨by omega,YP⟩ ?_
  intro k ⟨Hh,W⟩ ih;have T:(dI i.args).length<=(dn g.vars).length:=by omega
  by_cases F:k<(dI i.args).length;have y:(k:Int)<g.params:=by omega
  have M:k<(dn g.vars).length:=by omega
  have hw:=wk k (by omega);have P:=N (dn g.vars)[k] (dI i.args)[k];cases U:kA (dn c.vars) (dn g.vars)[k] [(dI i.args)[k]] with
  |true=>
   simp[j,y,F,M,L,cY L,I,lE I,aD,aC,P,U,hw];exact ih (k+1) ⟨by omega,YQ W F M U⟩ (by omega)
  |false=>
   have q:=Uj (p:=λa b=>kA (dn c.vars) b [a]) F M U;simp[j,y,F,M,L,cY L,I,lE I,aD,aC,P,U,q]
  have y:¬(k:Int)<g.params:=by omega
  have G:k=(dI i.args).length:=by omega
  have q:=adj (p:=λa b=>kA (dn c.vars) b [a]) (G ▸ W);have Y:=X g i.a;cases J:decide (i.a = -1) with
  |true=>simp[y,q,of_decide_eq_true J]|false=>
   have E:=of_decide_eq_false J;cases e2:g.bR with
   |true=>simp[j,y,q,E,Y]|false=>simp[y,q,E]
  have m:((dn g.vars).length:Int)<g.params:=by omega
  simp[Tq,vw,j,D,v,s,G,o,nJ o,CD.cells,L,cY L,C,H,z,w,I,lE I,V,m,l];simp[Tq,vw,j,D,v,s,G,o,nJ o,CD.cells,L,cY L,C,B,H,z,w,l]
end jc
namespace jc
open Ax Go aO dh
def Gg(c:CD)(n:Int):Bool:=decide (0<=n)&&decide (n<(mF c.jr).length)
def tG(x:XD)(c:CD)(i:ID):Bool:=
 if i.op=13 then LA (iI x.aR) (dn c.vars) i else
 if i.op=14\/i.op=15 then kA (dn c.vars) zU [i.a] else
 if i.op=16 then Gg c i.n else
 if i.op=17 then kA (dn c.vars) qB [i.a]&&Gg c i.n&&Gg c i.c else
 if i.op=18 then (if c.bR then kA (dn c.vars) c.res [i.a] else decide (i.a = -1)) else
 OL (dn x.az) (dn c.vars) i.n i.a
theorem ag5(C:List CD)(vs:List T3)(i:ID)(p r t:Int):LA C vs ⟨p,i.a,r,i.c,t,i.args⟩=LA C vs i:=rfl
theorem axc(w k:Nat){x:XD}{f:Int}{c:CD}{i:ID}(a:Int)(st:aj)(h:VW x c i) :
  (aZ S).call w k 174 [vw x f c i,.agg c.res.cells,.dV 1 [[.int .i64 a]]] st=some (.bool (kA (dn c.vars) c.res [a]),st):=is1 w k _ a st h
theorem ag6(W F:Nat){x:XD}{f:Int}{c:CD}{i:ID}(st:aj)(h:VW x c i)(G:∀g∈iI x.aR,(dn g.vars).length<1000000000) :
  (aZ S).call W F 179 [vw x f c i] st=some (.bool (tG x c i),st):=by
 have j:=h.sl;have L:=λp q r s t a=>ai3 0 0 (f:=f) (i:=⟨p,q,r,s,t,i.args⟩) a [] (h.any p q r s t);have l:=λp q r s t a=>Uh 0 0 (f:=f) (i:=⟨p,q,r,s,t,i.args⟩) a [] (h.any p q r s t);have z:=λp q r s t a=>axc 0 0 (f:=f) (i:=⟨p,q,r,s,t,i.args⟩) a [] (h.any p q r s t);have Y:=λp q r s t n=>adf 0 0 (f:=f) (i:=⟨p,q,r,s,t,i.args⟩) n [] (h.any p q r s t);have H:=λp q r s t n a=>YO 0 0 (f:=f) (i:=⟨p,q,r,s,t,i.args⟩) n a [] (h.any p q r s t);have R:=λp r t=>xm 0 0 (x:=x) (f:=f) (c:=c) (i:=⟨p,i.a,r,i.c,t,i.args⟩) [] (h.any p _ r _ t) G;have Y:∀p q r s t n,(aZ S).call 0 0 184 [vw x f c ⟨p,q,r,s,t,i.args⟩,.int .i64 n] []=some (.bool (Gg c n),[]):=λp q r s t n=>Y p q r s t n;simp only[ag5]at R;simp only[vw,T3.cells]at L l z Y H R;refine bE (sf:=DG) rfl rfl (by simp[h.pure]) rfl (by simp) ?_;by_cases o:i.op=13
 skip
 simp[DG,vw,j,R,tG,o]
 skip
 by_cases B:i.op=14
 skip
 simp[DG,vw,j,L,tG,B]
 skip
 by_cases w:i.op=15
 skip
 simp[DG,vw,j,L,tG,w]
 skip
 by_cases y:i.op=16
 skip
 simp[DG,vw,j,Y,tG,y]
 skip
 by_cases D:i.op=17
 skip
 cases v:kA (dn c.vars) qB [i.a] with
 |true=>
  cases k:Gg c i.n with
  |true=>
   simp[DG,vw,j,l,Y,tG,D,v,k]
  |false=>
   simp[DG,vw,j,l,Y,tG,D,v,k]
 |false=>
  cases k:Gg c i.n with
  |true=>
   simp[DG,vw,j,l,tG,D,v,k]
  |false=>
   simp[DG,vw,j,l,tG,D,v,k]
 skip
 by_cases C:i.op=18
 skip
 cases E:c.bR with
 |true=>
  simp only[E]at z;cases m:kA (dn c.vars) c.res [i.a] with
  |true=>
   simp[DG,vw,j,z,tG,C,E,m]
  |false=>
   simp[DG,vw,j,z,tG,C,E,m]
 |false=>
  simp only[E]at z;cases m:kA (dn c.vars) c.res [i.a] with
  |true=>
   simp[DG,vw,j,tG,C,E]
  |false=>
   simp[DG,vw,j,tG,C,E]
 skip
 simp[DG,vw,j,H,tG,o,B,w,y,D,C]
end jc
namespace jc
open Ax Go aO dh
def mh(t:T3):Bool:=decide (t.b=3)||decide (0<t.d)
theorem adk(w k:Nat)(a b c:Int)(st:aj) :
  (aZ S).call w k 105 [.agg [.int .i64 a,.int .i64 b,.int .i64 c]] st=some (.bool (mh ⟨a,b,c⟩),st):=by
 refine bE (sf:=akS) rfl rfl (by simp) rfl (by simp) ?_;unfold mh;by_cases h:a=3;all_goals simp_all [akS]
def iX(x:XD)(f:Int)(c:CD)(i:ID):Bool:=
 if i.op=1 then kA (dn c.vars) zU [i.a]||kA (dn c.vars) qB [i.a]&&(decide (i.n=0)||decide (i.n=1)) else
 if i.op=2 then mh (sZ (dn c.vars) i.a) else
 if i.op=3 then kA (dn c.vars) (sZ (dn c.vars) i.a) [i.b] else
 if i.op=4 then pJ (dn c.vars) i else
 if i.op=5 then decide (i.n=12)&&kA (dn c.vars) zU [i.a,i.b]||decide (i.n=13)&&kA (dn c.vars) qB [i.a,i.b] else
 if i.op=6 then Ly (pD x.aU) (dn c.vars) i.b i.c i.a else
 if i.op=7 then Ly (pD x.aU) (dn c.vars) i.a i.c i.b else
 if i.op=8 then HU (dn c.vars) i.b i.a&&kA (dn c.vars) zU [i.c] else
 if i.op=9 then HU (dn c.vars) i.a i.c&&kA (dn c.vars) zU [i.b] else
 if i.op=10 then kA (dn c.vars) zU [i.a]&&decide (0<(sZ (dn c.vars) i.b).d) else
 if i.op=11 then decide ((sZ (dn c.vars) i.a).b=3)&&decide ((sZ (dn c.vars) i.a).d=0)&&HV (ox x.aJ) f (dn c.vars) i.n i.a else
 if i.op=12 then decide (0<(sZ (dn c.vars) i.a).d)&&HV (ox x.aJ) f (dn c.vars) i.n i.a&&kA (dn c.vars) zU [i.b] else
 tG x c i
theorem ag7(vs:List T3)(i:ID)(p:Int):pJ vs ⟨p,i.a,i.b,i.c,i.n,i.args⟩=pJ vs i:=rfl
theorem ag8(wl ah:Nat){x:XD}{f:Int}{c:CD}{i:ID}(st:aj)(h:VW x c i)(hb:∀g∈iI x.aR,(dn g.vars).length<1000000000) :
  (aZ S).call wl ah 163 [vw x f c i] st=some (.bool (iX x f c i),st):=by
 have j:=h.sl;have L:=λp q r s t a=>ai3 0 0 (f:=f) (i:=⟨p,q,r,s,t,i.args⟩) a [] (h.any p q r s t);have o:=λp q r s t a b=>ai4 0 0 (f:=f) (i:=⟨p,q,r,s,t,i.args⟩) a b [] (h.any p q r s t);have z:=λp q r s t a=>Uh 0 0 (f:=f) (i:=⟨p,q,r,s,t,i.args⟩) a [] (h.any p q r s t);have F:=λp q r s t a b=>amj 0 0 (f:=f) (i:=⟨p,q,r,s,t,i.args⟩) a b [] (h.any p q r s t);have hC:=λp q r s t n a=>arx 0 0 (f:=f) (i:=⟨p,q,r,s,t,i.args⟩) n a [] (h.any p q r s t);have P:=λp q r s t n a=>OD 0 0 (f:=f) (i:=⟨p,q,r,s,t,i.args⟩) n a [] (h.any p q r s t);have W:=λp q r s t a k v=>adg 0 0 (f:=f) (i:=⟨p,q,r,s,t,i.args⟩) a k v [] (h.any p q r s t);have I:=λp q r s t a b=>KI 0 0 (f:=f) (i:=⟨p,q,r,s,t,i.args⟩) a b [] (h.any p q r s t);have l:=λp q r s t n=>Bm 0 0 x f c ⟨p,q,r,s,t,i.args⟩ n [] (h.any p q r s t);have w:=λp=>Ui 0 0 (x:=x) (f:=f) (c:=c) (i:=⟨p,i.a,i.b,i.c,i.n,i.args⟩) [] (h.any p _ _ _ _);have G:=ag6 0 0 (f:=f) [] h hb;simp only[ag7]at w;simp only[vw,T3.cells]at L o z F hC P W I l w G;refine bE (sf:=oM) rfl rfl (by simp[h.pure]) rfl (by simp) ?_;by_cases H:i.op=1
 skip
 cases E:kA (dn c.vars) zU [i.a] with
 |true=>
  cases m:kA (dn c.vars) qB [i.a] with
  |true=>
   cases N:decide (i.n=0) with
   |true=>
    simp[oM,vw,j,L,iX,H,E,m,N]
   |false=>
    simp[oM,vw,j,L,iX,H,E,m,N]
  |false=>
   cases N:decide (i.n=0) with
   |true=>
    simp[oM,vw,j,L,iX,H,E,m,N]
   |false=>
    simp[oM,vw,j,L,iX,H,E,m,N]
 |false=>
  cases m:kA (dn c.vars) qB [i.a] with
  |true=>
   cases N:decide (i.n=0) with
   |true=>
    simp[oM,vw,j,L,z,iX,H,E,m,N]
   |false=>
    simp[oM,vw,j,L,z,iX,H,E,m,N]
  |false=>
   cases N:decide (i.n=0) with
   |true=>
    simp[oM,vw,j,L,z,iX,H,E,m,N]
   |false=>
    simp[oM,vw,j,L,z,iX,H,E,m,N]
 skip
 by_cases Y:i.op=2
 skip
 simp[oM,vw,j,l,adk,iX,Y]
 skip
 by_cases Z:i.op=3
 skip
 simp[oM,vw,j,aD,aC,hC,l,iX,Z]
 skip
 by_cases h4:i.op=4
 skip
 simp[oM,vw,j,w,iX,h4]
 skip
 by_cases V:i.op=5
 skip
 by_cases M:i.n=12
 skip
 cases X:kA (dn c.vars) zU [i.a,i.b] with
 |true=>
  simp[oM,vw,j,o,iX,V,M,X]
 |false=>
  simp[oM,vw,j,o,iX,V,M,X]
 skip
 by_cases J:i.n=13
 skip
 simp[oM,vw,j,F,iX,V,J]
 skip
 simp[oM,vw,j,iX,V,M,J]
 skip
 by_cases h6:i.op=6
 skip
 simp[oM,vw,j,W,iX,h6]
 skip
 by_cases h7:i.op=7
 skip
 simp[oM,vw,j,W,iX,h7]
 skip
 by_cases R:i.op=8
 skip
 cases D:HU (dn c.vars) i.b i.a with
 |true=>
  simp[oM,vw,j,L,I,iX,R,D]
 |false=>
  simp[oM,vw,j,I,iX,R,D]
 skip
 by_cases U:i.op=9
 skip
 cases D:HU (dn c.vars) i.a i.c with
 |true=>
  simp[oM,vw,j,L,I,iX,U,D]
 |false=>
  simp[oM,vw,j,I,iX,U,D]
 skip
 by_cases Q:i.op=10
 skip
 cases E:kA (dn c.vars) zU [i.a] with
 |true=>
  simp[oM,vw,j,L,l,iX,Q,E]
 |false=>
  simp[oM,vw,j,L,iX,Q,E]
 skip
 by_cases y:i.op=11
 skip
 cases K:decide ((sZ (dn c.vars) i.a).b=3) with
 |true=>
  cases B:decide ((sZ (dn c.vars) i.a).d=0) with
  |true=>
   simp[oM,vw,j,P,l,iX,y,K,B]
  |false=>
   simp[oM,vw,j,l,iX,y,K,B]
 |false=>
  cases B:decide ((sZ (dn c.vars) i.a).d=0) with
  |true=>
   simp[oM,vw,j,l,iX,y,K,B]
  |false=>
   simp[oM,vw,j,l,iX,y,K,B]
 skip
 by_cases T:i.op=12
 skip
 cases O:decide (0<(sZ (dn c.vars) i.a).d) with
 |true=>
  cases C:HV (ox x.aJ) f (dn c.vars) i.n i.a with
  |true=>
   simp[oM,vw,j,L,P,l,iX,T,O,C]
  |false=>
   simp[oM,vw,j,P,l,iX,T,O,C]
 |false=>
  cases C:HV (ox x.aJ) f (dn c.vars) i.n i.a with
  |true=>
   simp[oM,vw,j,l,iX,T,O,C]
  |false=>
   simp[oM,vw,j,l,iX,T,O,C]
 skip
 simp[oM,vw,j,G,iX,H,Y,Z,h4,V,h6,h7,R,U,Q,y,T]
end jc
namespace jc
open Ax Go aO dh
def qm(x:XD):AV:=.agg [x.aU,x.az,x.aR,x.aJ,.int .i64 x.main]
variable{x:XD}
theorem _root_.dh.XD.ok.sl(h:x.ok):(bf x.aU=true/\bf x.az=true/\bf x.aR=true/\bf x.aJ=true)/\
  x.aU.ai=x.aU/\x.az.ai=x.az/\x.aR.ai=x.aR/\x.aJ.ai=x.aJ:=
 ⟨⟨KE h.aU,pz h.az,Bv h.aR,KG h.aJ⟩,OJ h.aU,oN h.az,Cq h.aR,OK h.aJ⟩
theorem _root_.dh.XD.ok.pure(h:x.ok):(qm x).aH=true:=by
 have H:=eC (KE h.aU);have g:=eC (pz h.az);have j:=eC (Bv h.aR);have l:=eC (KG h.aJ);simp[qm, *]
theorem amm{i:ID}(h:mK i.args=true):(Bw i).aH=true:=by
 have H:=eC (eA h);simp[Bw, *]
def Bx(x:XD)(f:Int)(i:ID):Bool:=match pU (iI x.aR) f with
 |none=>false|some c=>EU i&&iX x f c i
theorem oL(wl ah:Nat)(f:Int){i:ID}(st:aj)(l:x.ok)(H:mK i.args=true)(E:cJ i.args=true)(B:∀g∈iI x.aR,(dn g.vars).length<1000000000) :
  (aZ S).call wl ah 141 [qm x,.int .i64 f,Bw i] st=some (.bool (Bx x f i),st):=by
 have j:=l.sl;have o:=l.aR;have h:=eA H;have s:=bT E h;have n:=ag4 0 0 i [] H E;simp only[Bw]at n;refine bE (sf:=XN) rfl rfl (by simp[l.pure,amm H]) rfl (by simp) ?_;unfold Bx;cases O:pU (iI x.aR) f with
 |none=>
  rcases sF O with r|⟨r,y⟩;have D:¬0<=f:=by omega
  simp[XN,qm,Bw,j,h,D,aD,aC];have m:¬f<((iI x.aR).length:Int):=by omega
  simp[XN,qm,Bw,j,h,r,m,o,nJ o,aD,aC]
 |some c=>
  obtain⟨k,rfl,q,w⟩:=mA O;have v:=rC o c (w ▸ acH q);have t:=ag8 0 0 (x:=x) (f:=(k:Int)) (c:=c) (i:=i) [] ⟨l,v.1,v.2,H,E⟩ B;have z:=pz v.1;have p:=oN v.1;have C:=Bu v.2;have G:=zR v.2;simp only[vw]at t;have r:(0:Int)<=(k:Int):=by omega
  have y:(k:Int)<((iI x.aR).length:Int):=by omega
  cases e:EU i with
  |true=>simp[XN,qm,Bw,j,h,s,r,q,o,nJ o,CD.cells,aD,aC,n,t,w,e,p,G]|false=>simp[XN,qm,Bw,j,h,s,r,q,o,nJ o,aD,aC,n,e]
end jc
