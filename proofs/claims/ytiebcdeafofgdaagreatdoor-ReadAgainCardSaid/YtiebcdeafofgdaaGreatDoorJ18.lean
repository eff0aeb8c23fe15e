/-
  Parts of the proof: Pout Pend Pqh Pfile Pexpr Pwc Pawk Pawake Pnt Pit Ppq Ppa. By an AI agent.
-/
import Derived.Test.YtiebcdeafofgdaaGreatDoorJ01
import Derived.Test.YtiebcdeafofgdaaGreatDoorJ17
import Derived.Test.YtiebcdeafofgdaaGreatDoorJ05
import Derived.Test.YtiebcdeafofgdaaGreatDoorJ02
import Derived.Lib.SmallJoins
set_option maxRecDepth 100000
set_option maxHeartbeats 8000000
namespace Go.Proofs.YtiebcdeafofgdaaGreatDoor
section
theorem kZ:type_of% @Bool.or_eq_false_iff:=@Bool.or_eq_false_iff
theorem ql:type_of% @List.map_map:=@List.map_map
theorem vc:type_of% @List.getElem_cons_succ:=@List.getElem_cons_succ
theorem vu:type_of% @List.flatMap_nil:=@List.flatMap_nil
theorem IB(m:Nat):(iF m).length<=2:=by
 unfold iF;split
 ·simp
 ·split<;>simp
theorem Bo(f:Nat):∀(l:List Nat)(m:Nat),(d6 f l m).length<=l.length+2
 |[],m=>by unfold d6;have:=IB m;simpa using this
 |x::r,m=>by unfold d6;have:=Bo f r ((x*f+m)/10);simp only[gM];omega
theorem yx(radix:Nat):∀(l:List UInt8)(v:List Nat)(line:Bool)(many:Nat)(v':List Nat)(p:Bool×Nat),fD radix l v line many=some (v',p)->v'.length<=v.length+2*l.length
 |[],v,line,many,v',p,h=>by unfold fD at h;injection h with h;injection h with h _;subst h;simp
 |c::r,v,line,many,v',p,h=>by
  unfold fD at h;simp only[gM];split at h
  ·have:=yx radix r v true many v' p h;omega
  ·split at h
   ·cases h
   ·rename_i d _;split at h
    ·have:=yx radix r _ false (many+1) v' p h;have:=Bo radix v d;omega
    ·cases h
theorem MM(l:List UInt8):(sF l).2.length<=l.length:=by
 unfold sF;split
 ·simp
 ·simp
 ·split
  ·split
   ·simp only[gM];omega
   ·split
    ·simp only[gM];omega
    ·split<;>simp only[gM]<;>omega
  ·simp
theorem IC(s:ByteArray):(lY s).size<=1000000000:=by
 unfold lY lA;split
 ·exact gP _
 ·rename_i hs;simp only;split
  ·exact gP _
  ·split
   ·exact gP _
   ·rename_i v line many hn;split
    ·exact gP _
    ·have D:=yx _ _ _ _ _ _ _ hn;have J:=MM s.data.toList;have I:s.data.toList.length=s.size:=rfl;show(nJ v).size<=_;unfold nJ;show((if v=[]then[0]else v.reverse).map fun d=>UInt8.ofNat (48+d)).toArray.size<=_;rw[qi,jV];simp only[kV]at D;split
     ·simp
     ·rw[qY];omega
theorem Bp(v:Int):(Utf8.encode v).data.toList.length<=4:=by unfold Utf8.encode;simp only;(repeat' split);all_goals simp
theorem MN{o:Option Nat}{b:Nat->Bool}{f:Nat->List UInt8}(I:∀v,(f v).length<=4){n:Nat}(D:1<=n){p:List UInt8×Nat}(h:(o.bind fun v=>if b v=true then some (f v,n)else none)=some p):p.1.length<=4/\1<=p.2:=by
 cases o with
 |none=>cases h
 |some v=>
  rw[kL]at h;split at h
  ·injection h with h;subst h;exact⟨I v,D⟩
  ·cases h
theorem Sl{o:Option Nat}{p:List UInt8×Nat}(h:(o.bind fun v=>if v<=255 then some ([UInt8.ofNat v],3)else none)=some p):p.1.length<=4/\1<=p.2:=by
 cases o with
 |none=>cases h
 |some v=>
  rw[kL]at h;split at h
  ·injection h with h;subst h;simp
  ·cases h
theorem MO(l:List UInt8)(p:List UInt8×Nat)(h:lT l=some p):p.1.length<=4/\1<=p.2:=by
 cases l with
 |nil=>cases h
 |cons c r=>
  rw[lT]at h;split at h
  ·injection h with h;subst h;simp
  ·split at h
   ·cases hd:cB r 2 16 with
    |none=>rw[hd]at h;cases h
    |some v=>rw[hd]at h;injection h with h;subst h;simp
   ·split at h
    ·exact MN (b:=fun v=>Utf8.valid (v:Int)) (f:=fun v=>(Utf8.encode (v:Int)).data.toList) (fun v=>Bp (v:Int)) (by omega) h
    ·split at h
     ·exact MN (b:=fun v=>Utf8.valid (v:Int)) (f:=fun v=>(Utf8.encode (v:Int)).data.toList) (fun v=>Bp (v:Int)) (by omega) h
     ·exact Sl h
theorem se:∀(g:Nat)(l t:List UInt8),cI g l=some t->t.length<=4*l.length
 |0,_,_,h=>by simp[cI]at h
 |_+1,[],t,h=>by unfold cI at h;injection h with h;subst h;simp
 |g+1,c::r,t,h=>by
  unfold cI at h;simp only[gM];split at h
  ·rw[Option.bind_eq_some_iff]at h;obtain⟨p,J,h⟩:=h;rw[Option.map_eq_some_iff]at h;obtain⟨u,D,rfl⟩:=h;have M:=MO _ _ J;have I:=se g _ _ D;rw[gR]at I;rw[gJ];omega
  ·split at h
   ·cases h
   ·rw[Option.map_eq_some_iff]at h;obtain⟨u,D,rfl⟩:=h;have I:=se g _ _ D;simp only[gM];omega
theorem Ff(s:ByteArray):(i6 s).size<=1000000000:=by
 unfold i6 ec;(have I:(s.data.toList.extract 1 (s.size-1)).length<=s.size:=by rw[qg,qD,gR];show min _ (s.size-1)<=s.size;omega);split
 ·exact gP _
 ·split
  ·exact gP _
  ·split
   ·exact gP _
   ·split
    ·cases D:cI (s.size+1) (s.data.toList.extract 1 (s.size-1))with
     |none=>exact gP _
     |some t=>have:=se _ _ _ D;have e:(t.toArray).size=t.length:=qi;exact jB (Nat.le_of_eq e) (by omega)
    ·split
     ·split
      ·exact gP _
      ·have e:(((s.data.toList.extract 1 (s.size-1)).filter fun c=>c.toNat != 13).toArray).size=_:=qi;have:=List.length_filter_le (fun c:UInt8=>c.toNat != 13) (s.data.toList.extract 1 (s.size-1));exact jB (Nat.le_of_eq e) (by omega)
     ·exact gP _
def t7(x:ByteArray):Nat:=(bytes x).count 32
theorem dI(x y:ByteArray):t7 (x++y)=t7 x+t7 y:=by unfold t7;rw[aY,List.count_append]
theorem oI{t:cY}(h:NB t)(D:t.kind≠5):t7 t.text=0:=List.count_eq_zero.2 (h.resolve_left D)
theorem Ts{c:Cx}(h:∀t∈c.toks,NB t):∀s x s',bI c s=some (x,s')->s'.at_<=c.toks.length:=by
 intro s x s' J;unfold bI at J;simp only at J;split at J
 ·rename_i he;injection J with J;injection J with _ J;subst J;exact o9 he
 ·split at J
  ·rename_i a b d r hl;(have M:(c.toks.drop s.at_).length=r.length+3:=by rw[hl];simp);rw[gR]at M;split at J
   ·injection J with J;injection J with _ J;subst J;show s.at_+3<=_;omega
   ·split at J
    ·rename_i h3;injection J with J;injection J with _ J;subst J;show s.at_+5<=_;obtain⟨ha,hd,-,I⟩:=h3;have O:∀t,t∈a::b::d::r->NB t:=fun t ht=>h t (qR (i:=s.at_) (by rw[hl];exact ht));have ba:=oI (O a (by simp)) (by omega);have bd:=oI (O d (by simp)) (by omega);(have D:t7 (a.text++(⟨#[32,44,32]⟩:BA)++d.text++(⟨#[32,58,61,32,114,97,110,103,101]⟩:BA))=4:=by rw[dI,dI,dI,ba,bd];decide);(have N:4<=(a.text++(⟨#[32,44,32]⟩:BA)++d.text++(⟨#[32,58,61,32,114,97,110,103,101]⟩:BA)).size:=by rw[<-bN,<-D];exact List.count_le_length);rw[hl]at I
     match r,M,I,O with
     |[],_,I,O=>
      exfalso;unfold dE at I;split at I
      ·rw[<-I]at N;have:(0:Nat)>=4:=N;omega
      ·rename_i h5;(have U:b.kind≠5:=by intro hb;apply h5;simp[hb]);have bb:=oI (O b (by simp)) U;rw[<-I]at D;simp only[qh,List.take_nil,vz,List.foldl_nil]at D;rw[dI,dI,dI,dI,ba,bb,bd]at D;revert D;decide
     |[e],_,I,O=>
      exfalso;unfold dE at I;split at I
      ·rw[<-I]at N;have:(0:Nat)>=4:=N;omega
      ·rename_i h5;(have U:b.kind≠5:=by intro hb;apply h5;simp[hb]);(have ga:e.kind≠5:=by intro hb;apply h5;simp[hb]);have bb:=oI (O b (by simp)) U;have be:=oI (O e (by simp)) ga;rw[<-I]at D;simp only[qh,List.take_nil,vz,List.foldl_nil]at D;rw[dI,dI,dI,dI,dI,dI,ba,bb,bd,be]at D;revert D;decide
     |_::_::_,M,_,_=>simp only[gM]at M;omega
    ·cases J
  ·cases J
theorem PB{c:Cx}(I:∀t∈c.toks,t.text.size<=65536)(D:∀t∈c.toks,NB t):uQ c:=⟨I,fun _ _=>IC _,fun _ _=>Ff _,Ts D⟩
def NC(c:Cx)(s1:St):Prop:=pv (ar c (s1.at_-1))=true
section
variable {c:Cx} (hK:∀t∈c.toks,KD t)
include hK
structure TP(c:Cx)(F:fJ):Prop where
 typ:∀s,cc False (fun _ s1=>NC c s1) (F.typ c s)
 expr:∀s,cc False (fun _ s1=>NC c s1) (F.expr c s)
 unary:∀s,cc False (fun _ s1=>NC c s1) (F.unary c s)
variable {F:fJ} (hF:TP c F)
include hF
end
theorem wA(d:Nat):Tl (ac d).typ:=by have h:=N0 d;cases d<;>exact h
theorem N1(d deep:Nat):sz ((ac d).block bU deep)<=deep+3:=by
 cases d with
 |zero=>exact gP _
 |succ d=>show sz (cX 123::.gap 10::([]++(nI deep++[cX 125])))<=_;simp only[iP,d9,nF,y7,CI];omega
theorem ST(d deep:Nat)(head:Bool):sz ((ac d).expr bU deep head)<=deep+10:=by
 have:=N1 (d-1) deep;cases d with
 |zero=>exact gP _
 |succ d=>show sz (iy ⟨#[102,117,110,99]⟩::((cX 40::([]++(cX 41::[])))++(bc::(ac d).block bU deep)))<=_;simp only[iP,d9,nF,mD,px,show((⟨#[102,117,110,99]⟩:BA).size=4)from rfl];rw[Nat.add_sub_cancel]at this;omega
theorem TV(d deep:Nat)(head:Bool):sz ((ac d).stmt bU deep head)<=deep+3:=by
 cases d with
 |zero=>exact gP _
 |succ d=>exact N1 (d+1) deep
theorem N2{p:Prop}[Decidable p]{l m:List It}{c k:Nat}(I:sz l+c<=k)(D:sz m+c<=k):sz (if p then l else m)+c<=k:=by split<;>assumption
def T0(d:Nat):Prop:=∀deep,deep+d<=1000->(∀n head,sz ((ac d).expr n deep head)+100<=ot n)/\(∀n,sz ((ac d).block n deep)+100<=ot n)/\∀n head,sz ((ac d).stmt n deep head)+1100<=ot n
theorem N3{d deep:Nat}(hd:deep+d<=1000)(hE:∀n head,sz ((ac d).expr n deep head)+100<=ot n)(yes head:Bool):sz (aM (ac d) yes bU deep head)<=1100/\∀x,sz (aM (ac d) yes x deep head)<=ot x:=by
 have h:∀x c,(∀head,sz ((ac d).expr x deep head)+2<=c)->sz (aM (ac d) yes x deep head)<=c:=by
  intro x c h;have:=h false;have:=h head;unfold aM;split
  ·simp only[iP,d9,nF];omega
  ·omega
 exact⟨h _ _ fun head=>by have:=ST d deep head;omega,fun x=>h _ _ fun head=>by have:=hE x head;omega⟩
theorem SU{d deep:Nat}(hd:deep+d<=1000)(hE:∀n head,sz ((ac d).expr n deep head)+100<=ot n)(hB:∀n,sz ((ac d).block n deep)+100<=ot n)(n:Nd)(head:Bool):sz (mI (ac d) n deep head)+100<=ot n:=by
 have hT:=wA d;have h:=fi n;have D:=N3 hd hE;have b0:=N1 d deep;have U:=NX n.text;have O:=CH n (fun x=>sz (aM (ac d) (fa n (aV n 0)) x deep head)) (D _ _).1 (D _ _).2;have N:=po n (fun x=>sz (aM (ac d) (fb n (aV n 0)) x deep head)) (fun x=>sz (aM (ac d) (eM n (aV n 1)) x deep head)) (D _ _).1 (D _ _).1 (D _ _).2 (D _ _).2;have M:=NW n (fun x=>sz (aM (ac d) (dr (aV n 0)) x deep head)) (D _ _).1 (D _ _).2;(have J:=NW n (fun x=>sz ((ac d).typ x)) (by rw[hT.1];omega) fun x=>by have:=hT.2 x;omega);(have I:=po n (fun x=>sz (ez (ac d).typ x)) (fun x=>sz ((ac d).block x deep)) (by have:=y9 hT bU;rw[show ot bU=10000 from rfl]at this;show 2<=_;omega) (by omega) (fun x=>by have:=y9 hT x;omega) fun x=>by have:=hB x;omega);have ho:=y8 ci (dy (ac d) deep) (n.kids.drop 1) fun x _=>by
  have:=hT.2 x;have:=hE x false;unfold dy;split
  ·show _+2<=_;omega
  ·show _+2<=_;omega
 unfold mI oJ di;(repeat' refine N2 ?_ ?_);all_goals(try simp only[iP,d9,nF,mD,rh,NV,px,show((⟨#[102,117,110,99]⟩:BA).size=4)from rfl]);(try simp only[sz,Tk,bN]);omega
theorem N4{d deep:Nat}(hE:∀n head,sz ((ac d).expr n deep head)+100<=ot n)(D:∀head,sz ((ac d).expr bU deep head)<=1100)(n:Nd)(head:Bool):sz (eS (ac d) n deep head)+1100<=ot n:=by have I:=fi n;(have h:=po n (fun x=>sz ((ac d).expr x deep head)) (fun x=>sz ((ac d).expr x deep head)) (D _) (D _) (fun x=>by have:=hE x head;omega) fun x=>by have:=hE x head;omega);unfold eS;(repeat' split);all_goals(try simp only[iP,d9,nF,mD,rh,NV,show((⟨#[58,61]⟩:BA).size=2)from rfl]);omega
theorem N5{d deep:Nat}(hd:deep+d+1<=1000)(D:∀n head,sz ((ac d).stmt n (deep+1) head)+1100<=ot n)(n:Nd):sz (og (ac d) n deep)+1100<=ot n:=by have I:=fi n;(have h:=ww (fun x=>nI (deep+1)++((ac d).stmt x (deep+1) false++[.nl])) n.kids fun x _=>by have:=D x false;simp only[iP,d9,CI,GF];omega);unfold og;simp only[iP,d9,nF,y7,CI];omega
theorem N6{d deep:Nat}(hE:∀n head,sz ((ac d).expr n deep head)+100<=ot n)(D:∀head,sz ((ac d).expr bU deep head)<=1100)(n:Nd):sz (pc (ac d) n deep)+1100<=ot n:=by have hT:=wA d;have I:=fi n;(have h:=po n (fun x=>sz ((ac d).typ x)) (fun x=>sz ((ac d).expr x deep false)) (by rw[hT.1];omega) (D _) (fun x=>by have:=hT.2 x;omega) fun x=>by have:=hE x false;omega);unfold pc;(repeat' split);all_goals simp only[iP,d9,nF,mD,rh,px,show((⟨#[118,97,114]⟩:BA).size=3)from rfl];omega
theorem SV{d deep:Nat}(hd:deep+d+1<=1000)(H:T0 d)(n:Nd)(head:Bool):sz (cr (ac d) n deep head)+1100<=ot n:=by
 obtain⟨hE,hB,N⟩:=H deep (by omega);(have D:∀head,sz ((ac d).expr bU deep head)<=1100:=fun head=>by have:=ST d deep head;omega);have b0:=N1 d deep;have s0:=TV d deep false;have hw:=fi n;have h5:=N6 hE D n;have I:=N4 hE D n head;have h3:=wz n (fun x=>sz ((ac d).expr x deep true)) (fun x=>sz ((ac d).block x deep)) (fun x=>sz ((ac d).stmt x deep false)) (fun _=>0) ⟨D _,by omega,by omega,by omega⟩ fun x=>⟨by have:=hE x true;omega,by have:=hB x;omega,by have:=N x false;omega,gP _⟩;have hs:=N4 hE D;have J:sz (eS (ac d) bU deep true)<=1100:=D true;have ga:=wz n (fun x=>sz (eS (ac d) x deep true)) (fun x=>sz ((ac d).expr x deep true)) (fun x=>sz (eS (ac d) x deep true)) (fun x=>sz ((ac d).block x deep)) ⟨J,D _,J,by omega⟩ fun x=>⟨by have:=hs x true;omega,by have:=hE x true;omega,by have:=hs x true;omega,by have:=hB x;omega⟩;(have U:=CH n (fun x=>sz ((ac d).expr x deep false)) (D _) fun x=>by have:=hE x false;omega);have h:=NY n.text;have O:=N5 hd (H (deep+1) (by omega)).2.2 n;unfold eS at I;(have hf:sz (si (ac d) n deep)<=sz (eS (ac d) (aV n 0) deep true)+sz ((ac d).expr (aV n 1) deep true)+sz (eS (ac d) (aV n 2) deep true)+5:=by unfold si;(repeat' split);all_goals simp only[iP,d9,nF,mD];omega);have gb:sz (if(aV n 2).kind=0 then[]else bc::iy ⟨#[101,108,115,101]⟩::bc::(ac d).stmt (aV n 2) deep false)<=sz ((ac d).stmt (aV n 2) deep false)+6:=by
  split
  ·exact gP _
  ·simp only[mD,px,show((⟨#[101,108,115,101]⟩:BA).size=4)from rfl];omega
 have M:sz (if(aV n 0).kind=0 then[]else bc::(ac d).expr (aV n 0) deep false)<=sz ((ac d).expr (aV n 0) deep false)+1:=by
  split
  ·exact gP _
  ·simp only[mD];omega
 (have gd:=po n (fun x=>sz ((ac d).expr x deep head)) (fun x=>sz ((ac d).expr x deep head)) (D _) (D _) (fun x=>by have:=hE x head;omega) fun x=>by have:=hE x head;omega);unfold cr;(repeat' refine N2 ?_ ?_);all_goals
  first
  |omega
  |(simp only[iP,d9,nF,mD,rh,NV,px,show((⟨#[105,102]⟩:BA).size=2)from rfl,show((⟨#[102,111,114]⟩:BA).size=3)from rfl,show((⟨#[114,97,110,103,101]⟩:BA).size=5)from rfl,show((⟨#[114,101,116,117,114,110]⟩:BA).size=6)from rfl,show((⟨#[98,114,101,97,107]⟩:BA).size=5)from rfl,show((⟨#[99,111,110,116,105,110,117,101]⟩:BA).size=8)from rfl,show((⟨#[58,61]⟩:BA).size=2)from rfl];omega)
theorem GG:∀d,T0 d
 |0=>fun deep _=>⟨fun n _=>by have:=fi n;show 0+100<=_;omega,fun n=>by have:=fi n;show 0+100<=_;omega,fun n _=>by have:=fi n;show 0+1100<=_;omega⟩
 |d+1=>fun deep hd=>by have H:=GG d;obtain⟨hE,hB,D⟩:=H deep (by omega);exact⟨fun n head=>SU (by omega) hE hB n head,fun n=>by have:=N5 (by omega) (H (deep+1) (by omega)).2.2 n;show sz (og (ac d) n deep)+100<=_;omega,fun n head=>SV (by omega) H n head⟩
theorem N7(d:Nat):sz (fL (ac d) bU)=0/\∀n,sz (fL (ac d) n)+100<=ot n:=by have hT:=wA d;refine⟨hT.1,fun n=>?_⟩;have:=hT.2 n;have:=Er hT n;unfold fL;split<;>omega
theorem SW(d:Nat)(n:Nd):sz (fA (ac d) n)+100<=ot n:=by have I:=fi n;have h:=NZ (f:=dS (ac d)) (fun p=>by have D:=N7 d;(have:=CH p (fun x=>sz (fL (ac d) x)) (by rw[D.1];omega) fun x=>by have:=D.2 x;omega);have:=fi p;unfold dS;simp only[mD,rh];omega) n.kids;unfold fA;omega
theorem SX{d:Nat}(hd:d<=1000)(n:Nd):sz (eN (ac d) n)+100<=ot n:=by
 have hT:=wA d;have J:=N7 d;obtain⟨hE,hB,-⟩:=GG d 0 (by omega);(have M:∀head,sz ((ac d).expr bU 0 head)<=1100:=fun head=>by have:=ST d 0 head;omega);have N:=fi n;have I:=SW d;have D:sz (fA (ac d) bU)<=1100:=gP _;have h2:=wz n (fun x=>sz (fA (ac d) x)) (fun x=>sz (ez (ac d).typ x)) (fun x=>sz ((ac d).block x 0)) (fun _=>0) ⟨D,by have:=y9 hT bU;rw[show ot bU=10000 from rfl]at this;show 2<=_;omega,by have:=N1 d 0;omega,by omega⟩ fun x=>⟨by have:=I x;omega,by have:=y9 hT x;omega,by have:=hB x;omega,gP _⟩;(have hs:∀x,sz (pd (ac d) x)+100<=ot x:=fun x=>by have:=fi x;(have:=ww (cS (ac d)) x.kids fun f _=>by have:=hT.le f;have:=fi f;unfold cS;simp only[iP,d9,y7,mD,rh,GF];omega);unfold pd;simp only[iP,d9,y7,mD,nF,px,show((⟨#[115,116,114,117,99,116]⟩:BA).size=6)from rfl];omega);(have h:=po n (fun x=>sz (fA (ac d) x)) (fun x=>sz (if x.kind=13 then pd (ac d) x else fL (ac d) x)) D (by show sz (fL (ac d) bU)<=_;rw[J.1];omega) (fun x=>by have:=I x;omega) fun x=>by have:=hs x;have:=J.2 x;split<;>omega);(have U:=po n (fun x=>sz (fA (ac d) x)) (fun x=>sz ((ac d).typ x)) D (by rw[hT.1];omega) (fun x=>by have:=I x;omega) fun x=>by have:=hT.2 x;omega);have O:=N6 hE M n;unfold eN;split
 ·simp only[d9,mD,rh,px,show((⟨#[102,117,110,99]⟩:BA).size=4)from rfl];omega
 ·split
  ·simp only[d9,mD,rh,px,show((⟨#[116,121,112,101]⟩:BA).size=4)from rfl];omega
  ·split
   ·simp only[d9,mD,rh,px,nF,show((⟨#[116,121,112,101]⟩:BA).size=4)from rfl];omega
   ·omega
theorem SY{d:Nat}(hd:d<=1000)(n:Nd):(d8 (ls (lO (ac d) n))).size<=ot n:=by have D:=fi n;(have:=ww (fun x=>.gap 10::(eN (ac d) x++[.nl])) n.kids fun x _=>by have:=SX hd x;simp only[iP,d9,y7,GF];omega);show(ls _).length<=_;rw[RR];unfold lO;simp only[mD,rh,px,GF,show((⟨#[112,97,99,107,97,103,101]⟩:BA).size=7)from rfl];omega
theorem N8:∀(g:Nat)(n:Nd),lW g n->ot n<=4000010000*iM n
 |0,_,h=>h.elim
 |g+1,.mk k t l a,h=>by
  have key:∀l:List Nd,(∀x∈l,lW g x)->wv l<=4000010000*lw l:=by
   intro l;induction l with
   |nil=>exact fun _=>gP _
   |cons x l ih=>intro h;have:=N8 g x (h x (by simp));have:=ih fun y hy=>h y (qp _ hy);rw[wv,aw];omega
  have:=key l h.2;have D:t.size<=1000000000:=h.1.2;rw[ot,aQ];omega
end
section
open Go.RowKit Go.Lib Go.Proofs
def fG:fJ:=cF 200000
theorem nV{s:ByteArray}{L:List cY}(h:cN s=.toks L):fR s=.toks L:=by
 unfold cN at h;cases hs:fR s with
 |err p n=>rw[hs]at h;cases h
 |toks L'=>
  rw[hs]at h;simp only at h;split at h
  ·cases h
  ·injection h with h;rw[h]
theorem nr{s:ByteArray}{L:List cY}(h:fR s=.toks L):s.size<=65536/\L.length<=65537/\∀t∈L,t.text.size<=65536:=by
 refine⟨?_,?_,uy h⟩
 ·unfold fR at h;split at h
  ·cases h
  ·omega
 ·unfold fR at h;split at h
  ·cases h
  ·split at h
   ·cases h
   ·cases hs:d7 s (s.size+1) 0 []with
    |bad p=>rw[hs]at h;cases h
    |ok l=>
     rw[hs]at h;injection h with h;subst h;have key:∀(g i:Nat)(l r:List cY),i<=s.size->mM i l->d7 s g i l=.ok r->r.length<=s.size+1:=by
      intro g;induction g with
      |zero=>intro i l r _ _ h;cases h
      |succ g ih=>
       intro i l r hi hv h;unfold d7 at h;split at h
       ·rename_i I;cases D:fh s i l with
        |bad p=>rw[D]at h;cases h
        |go j l'=>rw[D]at h;obtain⟨N,M,J⟩:=sN s i l (by omega) I hv j l' D;exact ih j l' r M J h
       ·injection h with h;subst h;have:=hv.1;unfold fm;split
        ·rw[gJ];simp;omega
        ·omega
     have:=key _ _ _ _ (gP _) ⟨by simp,fun t ht=>by simp at ht⟩ hs;omega
theorem t8{s:ByteArray}{L:List cY}(h:fR s=.toks L)(e:Int):uQ ⟨L,e⟩:=PB (nr h).2.2 (IA h).nb
theorem wh{b:Prop}{Q:Nd->St->Prop}{n:Nd}{s1:St}{r:bH Nd}(h:cc b Q r)(e:r=.ok n s1):Q n s1:=by rw[e]at h;exact h
theorem RL{s:ByteArray}{L:List cY}(N:cN s=.toks L)(E:co)(w:World)(D:AW E w s L):oy E fG:=by
 (have hB:uQ E.c:=by rw[D.c];exact t8 (nV N) _);(have M:E.c.toks.length<=65537:=by rw[D.c];exact D.few);refine TW E (If E D.tab D.base D.small) (fun g _ s x s1 hs h=>?_) (fun g s x s1 h=>?_) (Iu D.small) hB.rg 200000 (by omega)
 ·have J:=(wh ((tq hB g).expr s hs) h).1;have I:=J.cnt;have O:=J.le;exact⟨RK x J.ok (by omega),O⟩
 ·rcases jZ s.at_ E.c.toks.length with I|I
  ·exact I
  ·exact absurd h (MJ g s x s1 I)
theorem ua{s:ByteArray}{L:List cY}(D:cN s=.toks L):cc True (fun n s1=>cE ⟨L,(s.size:Int)⟩ 0 0 0 n s1.at_) (fY fG ⟨L,(s.size:Int)⟩ ⟨0,false,-1⟩):=by have hB:uQ ⟨L,(s.size:Int)⟩:=t8 (nV D) _;have I:=(nr (nV D)).2.1;exact(MH (tq hB 200000) hB ⟨0,false,-1⟩ (gP _)).mono (fun _=>by show 3*(L.length-0)<=_;omega) fun _ _ h=>h
theorem DX(s:ByteArray):iW fG s≠.out:=by
 unfold iW;cases I:cN s with
 |err p n=>exact nofun
 |toks L=>
  have D:=ua I;show mo _ _≠_;cases J:fY fG ⟨L,(s.size:Int)⟩ ⟨0,false,-1⟩with
  |out=>rw[J]at D;exact absurd trivial D
  |fail p=>exact nofun
  |ok n s1=>
   unfold mo;simp only;split
   ·exact nofun
   ·split<;>exact nofun
theorem DY{c:Cx}{n:Nd}{i0 i sl j:Nat}(h:cE c i0 i sl n j)(I:c.toks.length<=65537):j<=c.toks.length/\Au 101 n/\(b8 100 n).length<=1000000000:=by have M:=h.cnt;have D:=h.le;have J:=Bn 100 n;exact⟨D,Fe 101 n (.inr h.ok) (by omega),by omega⟩
theorem yy(A0:Option Addr)(c:Nat)(s:ByteArray)(w:World)(I:fo w A0 c s)(hT:mH w)(D:s.size<=1000000000):
  Calls Tryz.prog 13 #[.slice A0 s.size c] w (tf w (iW fG s)):=by refine B3 A0 c s w I hT D fG (fun L E w' ht hfr=>RL ht E w' hfr) (DX s) (fun L n s1 ht h=>?_);exact DY (c:=⟨L,(s.size:Int)⟩) (wh (ua ht) h) (nr (nV ht)).2.1
theorem rR{s:ByteArray}{L:List cY}(I:cN s=.toks L):cc True (fun n D=>∃j,cE ⟨L,(s.size:Int)⟩ 0 0 7 n j/\(D.at_=j\/(D.at_=j+1/\D.at_<=L.length))) (eh fG.expr ⟨L,(s.size:Int)⟩ ⟨0,false,-1⟩):=by have hB:uQ ⟨L,(s.size:Int)⟩:=t8 (nV I) _;have N:=(nr (nV I)).2.1;have M:=(tq hB 200000).expr ⟨0,false,-1⟩ (gP _);unfold eh;refine cc.bind M (fun _=>by show 3*(L.length-0)+2<=_;omega) fun n D h=>?_;refine cc.ite (fun J=>?_) fun _=>⟨D.at_,h.1,.inl rfl⟩;have:=bM J;exact⟨D.at_,h.1,.inr ⟨this.1,this.2⟩⟩
theorem MP(s:ByteArray):pU fG s≠.out:=by
 unfold pU;cases I:cN s with
 |err p n=>exact nofun
 |toks L=>
  have D:=rR I;show tg _ _≠_;cases J:eh fG.expr ⟨L,(s.size:Int)⟩ ⟨0,false,-1⟩with
  |out=>rw[J]at D;exact absurd trivial D
  |fail p=>exact nofun
  |ok n s1=>
   unfold tg;simp only;split
   ·exact nofun
   ·split<;>exact nofun
theorem MQ(s:ByteArray)(w:World)(hT:mH w)(D:s.size<=1000000000):
  Calls Tryz.prog 16 #[.string s] w (tf w (pU fG s)):=by refine B5 s w hT D fG (fun L E w' ht hfr=>RL ht E w' hfr) (MP s) (fun L n s1 ht h=>?_);obtain⟨j,J,M⟩:=wh (rR ht) h;have I:=DY J (nr (nV ht)).2.1;have N:j<=L.length:=I.1;exact⟨by omega,I.2⟩
def tx(l:List It):ByteArray:=d8 (ls l)
theorem rA(l:List It):bytes (tx l)=ls l:=bO _
theorem FQ:tx []=(⟨#[]⟩:BA):=rfl
theorem bG(l m:List It):tx (l++m)=tx l++tx m:=by apply cm;rw[aY,rA,rA,rA,i8]
theorem aC(a:It)(l:List It):tx (a::l)=tx [a]++tx l:=bG [a] l
theorem Ac(k:Int)(x:ByteArray):tx [.tok k (bytes x)]=x:=by apply cm;rw[rA];exact kG _
theorem py(x:ByteArray):tx [iN x]=x:=Ac _ x
theorem N9(x:ByteArray):tx [pb x]=x:=Ac _ x
theorem Es(x:ByteArray):tx [iy x]=x:=Ac _ x
theorem GH(b:UInt8):tx [cX b]=⟨#[b]⟩:=rfl
theorem Ae:tx [bc]=(⟨#[32]⟩:BA):=rfl
theorem un:tx ci=(⟨#[44,32]⟩:BA):=rfl
theorem GI(x:ByteArray)(h:x≠(⟨#[]⟩:BA)):tx (dR x)=x++(⟨#[32]⟩:BA):=by unfold dR;rw[gA h,aC,py,Ae]
theorem Et:tx (dR ⟨#[]⟩)=(⟨#[]⟩:BA):=rfl
theorem SZ{x:ByteArray}(h:x=(⟨#[]⟩:BA)\/x=(⟨#[126]⟩:BA)):tx (iE x)=x:=by
 rcases h with rfl|rfl
 ·rfl
 ·rfl
theorem Eu(s:List It):∀(l:List (List It))(x:List It),l≠[]->cv s (l++[x])=cv s l++(s++x)
 |[],_,h=>absurd rfl h
 |[y],x,_=>rfl
 |y::z::l,x,_=>by have ih:=Eu s (z::l) x (by simp);show y++(s++cv s (z::(l++[x])))=(y++(s++cv s (z::l)))++(s++x);rw[show z::(l++[x])=(z::l)++[x]from rfl,ih];simp only[gL]
def I4(s:List It)(i:Nat):List It:=if i=0 then[]else s
theorem sw(s:List It){i:Nat}(h:i=0):tx (I4 s i)=(⟨#[]⟩:BA):=by unfold I4;rw[gE h];rfl
theorem sx(s:List It){i:Nat}(h:0<i):tx (I4 s i)=tx s:=by unfold I4;rw[gA (by omega)]
theorem uo{α:Type}(s:List It)(f:α->List It)(l:List α)(i:Nat)(h:i<l.length):
  tx (cv s ((l.take (i+1)).map f))=tx (cv s ((l.take i).map f))++(tx (I4 s i)++tx (f l[i])):=by
 rw[kF h,qa];unfold I4;by_cases I:i=0
 ·subst I;rfl
 ·rw[gA I,jW,List.map_nil,Eu _ _ _ (by
   intro D;rw[List.map_eq_nil_iff,List.take_eq_nil_iff]at D;rcases D with D|D
   ·exact I D
   ·rw[D]at h;exact absurd h (by simp)),bG,bG]
theorem aA(x y z:ByteArray):x++y++z=x++(y++z):=ByteArray.append_assoc
theorem pq(x:ByteArray):x++(⟨#[]⟩:BA)=x:=ByteArray.append_empty
theorem ms(x:ByteArray):(⟨#[]⟩:BA)++x=x:=ByteArray.empty_append
theorem Oa{α:Type}(s:List It)(f:α->List It)(l:List α)(i:Nat):∀j,i<=j->j<=l.length->(tx (cv s ((l.take i).map f))).size<=(tx (cv s ((l.take j).map f))).size
 |0,D,_=>by(obtain rfl:i=0:=by omega);exact d5 _
 |j+1,D,I=>by
  rcases Nat.lt_or_eq_of_le D with h|rfl
  ·have:=Oa s f l i j (by omega) (by omega);rw[uo s f l j (by omega),gD];omega
  ·exact d5 _
theorem mu{α:Type}(s:List It)(f:α->List It)(l:List α)(i:Nat)(h:i<=l.length):(tx (cv s ((l.take i).map f))).size<=(tx (cv s (l.map f))).size:=by
 have:=Oa s f l i l.length h (d5 _)
 rwa [List.take_length]at this
theorem CJ{α:Type}(f:α->List It)(l:List α)(i:Nat)(h:i<l.length):tx ((l.take (i+1)).flatMap f)=tx ((l.take i).flatMap f)++tx (f l[i]):=by rw[kF h,kO,bG,jA,vu,kG]
theorem rB{α:Type}(f:α->List It)(l:List α)(i:Nat):(tx ((l.take i).flatMap f)).size<=(tx (l.flatMap f)).size:=by(conv=>rhs;rw[<-ve i l,kO,bG,gD]);exact Nat.le_add_right _ _
theorem rC{α:Type}(s:List It)(hs:1<=(tx s).size)(f:α->List It):∀l:List α,l.length<=(tx (cv s (l.map f))).size+1
 |[]=>gP _
 |[x]=>vA _ _
 |x::y::l=>by have ih:=rC s hs f (y::l);show l.length+1+1<=(tx (f x++(s++cv s ((y::l).map f)))).size+1;rw[bG,bG,gD,gD];rw[gM]at ih;omega
theorem wB{α:Type}(f:α->List It)(D:∀x,1<=(tx (f x)).size):∀l:List α,l.length<=(tx (l.flatMap f)).size
 |[]=>gP _
 |x::l=>by have ih:=wB f D l;have:=D x;rw[jA,bG,gD,gM];omega
def K4(w:World)(b o:Nat)(x:Nd)(A:Option Addr)(c:Nat):Prop:=
 w.cell? ⟨b,o,none⟩=some (.int .i64 x.kind)/\w.cell? ⟨b,o+1,none⟩=some (.string x.text)/\w.cell? ⟨b,o+2,none⟩=some (.slice A x.kids.length c)/\w.cell? ⟨b,o+3,none⟩=some (.int .i64 x.pos) /\
  bR w (.agg (nv x A c)) x
theorem K4.below{w w':World}{b o:Nat}{x:Nd}{A:Option Addr}{c:Nat}(h:K4 w b o x A c)(hb:Below w w w'):K4 w' b o x A c:=by obtain⟨M,J,I,D,N⟩:=h;exact⟨(hb.cell (gX w _ M)).trans M,(hb.cell (gX w _ J)).trans J,(hb.cell (gX w _ I)).trans I,(hb.cell (gX w _ D)).trans D,aq.below N hb⟩
theorem eR{w:World}{A:Option Addr}{k p:Int}{t:ByteArray}{m cp:Nat}{n:Nd}(h:bR w (.agg #[.int .i64 k,.string t,.slice A m cp,.int .i64 p]) n)(i:Nat)(J:i<n.kids.length):
  ∃b off I D,A=some ⟨b,off,none⟩/\K4 w b (off+i*4) n.kids[i] I D:=by obtain⟨b,off,I,D,e,_,_,h0,U,O,N,M⟩:=(aq.kidsV h).kid i J;exact⟨b,off,I,D,e,h0,U,O,N,M⟩
theorem TA{w:World}{A:Option Addr}{x y z:Nd}{k:Int}{t:ByteArray}{p:Int}{cp:Nat}(h:bR w (.agg #[.int .i64 k,.string t,.slice A 3 cp,.int .i64 p]) (.mk k t [x,y,z] p)):
  ∃b o O c1 N c2 M c3,A=some ⟨b,o,none⟩/\K4 w b o x O c1/\K4 w b (o+4) y N c2/\K4 w b (o+8) z M c3:=by obtain⟨bp,op,O,c1,rfl,J⟩:=eR h 0 (by simp);obtain⟨_,_,N,c2,e,I⟩:=eR h 1 (by simp);injection e with e;injection e with e1 e2;subst e1 e2;obtain⟨_,_,M,c3,e,D⟩:=eR h 2 (by simp);injection e with e;injection e with e1 e2;subst e1 e2;simp only[Nd.kids_mk,jM,vc,kE,jP,vB,Nat.reduceMul]at J I D;exact⟨_,_,_,_,_,_,_,_,rfl,J,I,D⟩
theorem FR{w:World}{A:Option Addr}{x y:Nd}{k:Int}{t:ByteArray}{p:Int}{cp:Nat}(h:bR w (.agg #[.int .i64 k,.string t,.slice A 2 cp,.int .i64 p]) (.mk k t [x,y] p)):
  ∃b o M c1 J c2,A=some ⟨b,o,none⟩/\K4 w b o x M c1/\K4 w b (o+4) y J c2:=by obtain⟨bp,op,M,c1,rfl,I⟩:=eR h 0 (by simp);obtain⟨_,_,J,c2,e,D⟩:=eR h 1 (by simp);injection e with e;injection e with e1 e2;subst e1 e2;simp only[Nd.kids_mk,jM,vc,kE,jP,vB]at I D;exact⟨_,_,_,_,_,_,rfl,I,D⟩
def P5(f:FuncId)(P:Nd->Bool)(I:Nd->List It):Prop:=
 ∀(v:Value)(n:Nd)(w:World),bR w v n->P n=true->(tx (I n)).size<=10000000000000000->Calls Tryz.prog f #[v] w fun e w'=>e=.returned (.string (tx (I n)))/\Below w w w'
theorem S0{F:dM}{so:ByteArray->Bool}{n:Nd}(h:lG F so n=true):∃t x p,n=.mk 8 t [x] p/\so t=true/\F.typ x=true:=by obtain⟨t,l,a,rfl,hs,I⟩:=aJ (by decide) h;obtain⟨x,rfl,D⟩:=ep I;exact⟨t,x,a,rfl,hs,D⟩
end
section
def sf:ByteArray:=(⟨#[112,97,99,107,97,103,101,32,112,59,32,102,117,110,99,32,102,40,97,32,105,110,116,41,32,105,110,116,32,123,32,114,101,116,117,114,110,32,45,97,32,42,32,50,32,125]⟩:BA)
def Cb:ByteArray:=(⟨#[120,91,105,110,116,93,40,49,41]⟩:BA)
def Tt(r:yi):Bool:=match r with
 | .tree n=>decide (n.text=(⟨#[112]⟩:BA))&&match n.kids with
   |[k]=>decide (k.kind=2)
   |_=>false
 |_=>false
def Tu(r:yi):Bool:=match r with
 | .tree n=>decide (n.kind=21)&&match n.kids with
   |k::_=>decide (k.kind=22)
   |_=>false
 |_=>false
theorem ID:Tu (pU fG Cb)=true:=by decide +kernel
theorem IE:Tt (iW fG sf)=true:=by decide +kernel
theorem DZ:∃k b l a r,iW fG sf=.tree (.mk k ⟨#[112]⟩ [.mk 2 b l a] r):=by
 have h:=IE;cases I:iW fG sf with
 |bad p e=>rw[I]at h;exact absurd h vb
 |out=>rw[I]at h;exact absurd h vb
 |tree n=>
  rw[I]at h;obtain⟨k,t,l,r⟩:=n;unfold Tt at h;simp only[Nd.text_mk,Nd.kids_mk,gB]at h;obtain⟨J,D⟩:=h;have J:=of_decide_eq_true J;subst J;split at D
  ·rename_i q;obtain⟨N,b,M,a⟩:=q;have D:=of_decide_eq_true D;have D:N=2:=D;subst D;exact⟨k,b,M,a,r,rfl⟩
  ·cases D
theorem D0:∃t b l a q r,pU fG Cb=.tree (.mk 21 t (.mk 22 b l a::q) r):=by
 have h:=ID;cases I:pU fG Cb with
 |bad p e=>rw[I]at h;exact absurd h vb
 |out=>rw[I]at h;exact absurd h vb
 |tree n=>
  rw[I]at h;obtain⟨k,t,l,r⟩:=n;unfold Tu at h;simp only[Nd.kind_mk,Nd.kids_mk,gB]at h;obtain⟨J,D⟩:=h;have J:=of_decide_eq_true J;subst J;split at D
  ·rename_i q rest;obtain⟨N,b,M,a⟩:=q;have D:=of_decide_eq_true D;have D:N=22:=D;subst D;exact⟨t,b,M,a,rest,r,rfl⟩
  ·cases D
end
section
open Go.RowKit Go.Lib Go.Proofs Go.Joins
attribute [local go_sem ↓] Go.wp_at_zero Go.wp_at_succ
attribute [local go_sem] bu bv bw bz
def D1:Array Value:=#[.int .u8 112,.int .u8 97,.int .u8 99,.int .u8 107,.int .u8 97,.int .u8 103,.int .u8 101,.int .u8 32,.int .u8 112,.int .u8 59,.int .u8 32,.int .u8 102,.int .u8 117,.int .u8 110,.int .u8 99,.int .u8 32,.int .u8 102,.int .u8 40,.int .u8 97,.int .u8 32,.int .u8 105,.int .u8 110,.int .u8 116,.int .u8 41,.int .u8 32,.int .u8 105,.int .u8 110,.int .u8 116,.int .u8 32,.int .u8 123,.int .u8 32,.int .u8 114,.int .u8 101,.int .u8 116,.int .u8 117,.int .u8 114,.int .u8 110,.int .u8 32,.int .u8 45,.int .u8 97,.int .u8 32,.int .u8 42,.int .u8 32,.int .u8 50,.int .u8 32,.int .u8 125]
theorem IF:D1=sf.data.map fun b=>.int .u8 (b.toNat:Int):=by kernel_rfl
theorem Fg(w:World):fo (w.alloc (.cells D1 5 (46,47))) (some ⟨w,0,none⟩) 46 sf:=by refine .inr ⟨w.heap.size,0,rfl,by decide +kernel,by simp,fun i hi=>?_⟩;have h:=World.cell?_alloc_mark w D1 5 (46,47) (0+i);rw[h,IF,kR,Array.getElem?_map,Array.getElem?_eq_getElem (xs:=sf.data) hi];rfl
theorem Fh(w:World)(hT:mH w):Calls Tryz.prog 17 #[] w fun e w'=>e=.returned (.bool true)/\Below w w w':=by have ge:Below w w (w.alloc (.cells D1 5 (46,47))):=(gG _ _).alloc (d5 _) _;have HF:=yy (some ⟨w,0,none⟩) 46 sf (w.alloc (.cells D1 5 (46,47))) (Fg w) (hT.below ge) (by decide +kernel);obtain⟨k0,b0,l0,a0,r0,hf⟩:=DZ;obtain⟨t1,b1,l1,a1,q1,r1,hx⟩:=D0;rw[hf]at HF;have HF:Calls Tryz.prog 13 #[.slice (some ⟨w,0,none⟩) 46 46] (w.alloc (.cells D1 5 (46,47))) _:=HF;have HF:=hid HF;have HX:=hid (fun W(hW:mH W)=>MQ Cb W hW (by decide +kernel));rw[hx]at HX;have gn:=hid hT;have gg:=run_convert_bytes_const_at (P:=Tryz.prog) w 27 5 D1 46 46 w.heap.size rfl Tryz.underlying27 Tryz.underlying5;unfold D1 at gg;clear hf hx hT;(go_enter Tryz.func17,Tryz.ntmps17);(go_wp2_with fail);refine HF.out.mono ?_;rintro e w1⟨v,rfl,hv,gh⟩;have gd:=a8 ge gh;obtain⟨A,cp,rfl,hC⟩:=hv.toC;obtain⟨h,D,A2,gq,rfl,-,U,q0,-,-,-,-⟩:=hv.kidsV.kid 0 (by simp);simp only[Nd.kids_mk,jM,Nd.kind_mk,kE,jP]at q0;simp only[Nd.kids_mk,Nd.kind_mk,Nd.text_mk,Nd.pos_mk,gM,kV,kR];have gb:=gd.alloc gd.size (.cells #[.int .i64 k0,.string ⟨#[112]⟩,.slice (some ⟨h,D,none⟩) 1 cp,.int .i64 r0] 24);have gk:=(aH w1 #[.int .i64 k0,.string ⟨#[112]⟩,.slice (some ⟨h,D,none⟩) 1 cp,.int .i64 r0]).2;have q2:=(((gG _ w1).alloc (d5 _) (.cells #[.int .i64 k0,.string ⟨#[112]⟩,.slice (some ⟨h,D,none⟩) 1 cp,.int .i64 r0] 24)).cell (p:=⟨h,D,none⟩) U).trans q0;(have J:h<(w1.alloc (.cells #[.int .i64 k0,.string ⟨#[112]⟩,.slice (some ⟨h,D,none⟩) 1 cp,.int .i64 r0] 24)).heap.size:=by simp;omega);have gl:=hid (HX.out _ (gn.out.below gb));clear gh HF ge gd hC gg hv q0 HX U;(go_wp2_with fail);refine gl.out.mono ?_;rintro e w2⟨v,rfl,hv,M⟩;clear gl;have ga:=a8 gb M;obtain⟨A,N,rfl,hC⟩:=hv.toC;obtain⟨b4,I,A4,gp,rfl,-,O,q4,-,-,-,-⟩:=hv.kidsV.kid 0 (by simp);simp only[Nd.kids_mk,jM,Nd.kind_mk,kE,jP]at q4;simp only[Nd.kids_mk,Nd.kind_mk,Nd.text_mk,Nd.pos_mk,gM];have gj:=(gk.bl M).alloc (.cells #[.int .i64 21,.string t1,.slice (some ⟨b4,I,none⟩) (q1.length+1) N,.int .i64 r1] 24);have gi:=(aH w2 #[.int .i64 21,.string t1,.slice (some ⟨b4,I,none⟩) (q1.length+1) N,.int .i64 r1]).2;have hA:Below w2 w2 (w2.alloc (.cells #[.int .i64 21,.string t1,.slice (some ⟨b4,I,none⟩) (q1.length+1) N,.int .i64 r1] 24)):=(gG _ w2).alloc (d5 _) _;have q3:=(hA.cell (p:=⟨h,D,none⟩) (kH J M.size)).trans ((M.cell (p:=⟨h,D,none⟩) J).trans q2);have q5:=(hA.cell (p:=⟨b4,I,none⟩) O).trans q4;have gm:=ga.alloc ga.size (.cells #[.int .i64 21,.string t1,.slice (some ⟨b4,I,none⟩) (q1.length+1) N,.int .i64 r1] 24);obtain⟨x0,x1,x2,x3,-,-,-,-⟩:=ag gj;obtain⟨y0,y1,y2,y3,-,-,-,-⟩:=ag gi;clear gb ga gk gj gi hA hC hv q2 q4 M J O;(go_wp2_with fail);go_ret;exact⟨rfl,gm⟩
def Sm(w:World):Prop:=∀w',Below w w w'->Calls Tryz.prog 17 #[] w' fun e w''=>e=.returned (.bool true)/\Below w' w' w''
theorem Sn(w:World)(hT:mH w):Sm w:=fun _ hb=>Fh _ (hT.below hb)
theorem IG(W1:World)(t:ByteArray):∃(W2:World)(A2:Option Addr)(c2:Nat),(Go.convert 9 27 (.string t)).run Tryz.prog W1=.ok (.slice A2 t.size c2) W2/\fo W2 A2 c2 t/\Below W1 W1 W2/\W2.heap.size=W1.heap.size+1:=
 ⟨_,_,_,run_bytes_of_string (P:=Tryz.prog) W1 9 27 5 t Tryz.underlying9 Tryz.underlying27 Tryz.underlying5,r5 t _,((gG _ _).drew.alloc (d5 _) _),by show(W1.heap.push _).size=_;simp⟩
end
section
open Go.Lib
def TN(c:UInt8):Prop:=∃i:Fin 26,c=UInt8.ofNat (97+i.val)
theorem Bu(p:Int):pv ⟨6,⟨#[10]⟩,p⟩=false:=by show pv ⟨6,⟨#[10]⟩,0⟩=false;decide +kernel
theorem ol(l:List cY)(t:cY):ed (l++[t])=pv t:=by unfold ed;rw[List.getLast?_concat]
theorem D6{l:List cY}(h:ed l=false)(p:Int):fm l p=l:=by unfold fm;rw[h];rfl
theorem uc{s:ByteArray}{g i j:Nat}{l l':List cY}(D:i<s.size)(h:fh s i l=.go j l'):d7 s (g+1) i l=d7 s g j l':=by rw[d7,gE D,h]
theorem Bv{s:ByteArray}{i:Nat}{l:List cY}(I:¬ (i=0/\hasPrefix (bytes s) [239,187,191]=true))(D:aa s i=10):fh s i l=.go (i+1) (fm l i):=by unfold fh;rw[gA I,gE D]
theorem Fm{s:ByteArray}{i:Nat}{l:List cY}(I:¬ (i=0/\hasPrefix (bytes s) [239,187,191]=true))(D:aa s i=32):fh s i l=.go (i+1) l:=by unfold fh;rw[gA I,gA (by omega),gE (.inl D)]
section
variable {c:UInt8} (hc:TN c) (s:ByteArray)
include hc
variable (hs:s.size<=1500) (h9:0<s.size->aa s 0≠239)
include hs h9
end
def pC(k:Int)(x:List UInt8):Bool:=pv ⟨k,d8 x,0⟩
def ny:List UInt8->Bool
 |[]=>false
 |a::r=>bo (a.toNat:Int)&&r.all fun c=>a6 (c.toNat:Int)
def Sp:List UInt8->Bool
 |[]=>false
 |a::r=>aW (a.toNat:Int)&&r.all fun c=>a6 (c.toNat:Int)
def Bw:List UInt8->Bool
 |[]=>true
 |b::_ =>!(a6 (b.toNat:Int))
def p8:List UInt8->Bool
 |[]=>false
 |b::_ =>!(a6 (b.toNat:Int))&&(b != 10&&(b != 32&&(b != 9&&(b != 13&&(b != 34&&b != 96)))))
inductive lX(r:List UInt8):Int->List UInt8->Prop where
 |word {x:List UInt8} (h:ny x=true) (hr:Bw r=true):lX r (bZ (d8 x)+1) x
 |num {x:List UInt8} (h:Sp x=true) (hr:Bw r=true):lX r 4 x
 |text {y:List UInt8} (h:∀r,bF 34 (y++34::r) false 0=some y.length):lX r 5 (34::y++[34])
 |sign {x:List UInt8} (h:p8 x=true) (hl:yA (x++r)=x.length) (h1:hasPrefix (x++r) [47,47]=false) (h2:hasPrefix (x++r) [47,42]=false):lX r 6 x
def bB:Bool->List It->List UInt8->Prop
 |_,[],_=>True
 |e,.nl::z,r=>e=true/\bB false z r
 |e,.gap b::z,r=>(b=32\/b=9\/(b=10/\e=false))/\bB e z r
 |_,.tok k x::z,r=>lX (ls z++r) k x/\bB (pC k x) z r
def dT:Nat->List It->List cY
 |_,[]=>[]
 |i,.tok k x::z=>⟨k,d8 x,(i:Int)⟩::dT (i+x.length) z
 |i,.gap _::z=>dT (i+1) z
 |i,.nl::z=>⟨6,⟨#[10]⟩,(i:Int)⟩::dT (i+1) z
theorem rS{p:UInt8->Bool}:∀(x r:List UInt8),x.all p=true->(∀b q,r=b::q->p b=false)->(x++r).takeWhile p=x
 |[],r,_,h=>by
  cases r with
  |nil=>rfl
  |cons b q=>rw[qQ,qy,h b q rfl];rfl
 |a::x,r,D,h=>by rw[kC,gB]at D;rw[gV,qy,gE D.1,rS x r D.2 h]
theorem yC{x r:List UInt8}(I:x.all (fun c=>a6 (c.toNat:Int))=true)(D:Bw r=true):bX (x++r)=x.length:=by unfold bX;rw[rS x r I];rintro b q rfl;unfold Bw at D;simpa using D
section
variable {t:ByteArray} {i:Nat}
theorem lu:aa t i=(((bytes t).drop i).getD 0 0).toNat:=by rw[uI,gN,gN,kY,jP]
theorem ne{a:UInt8}{r:List UInt8}(h:(bytes t).drop i=a::r):i<t.size:=by
 rcases jZ i t.size with D|D
 ·exact D
 ·rw[jU (by rw[bN];exact D)]at h;cases h
theorem Ch{x r:List UInt8}(h:(bytes t).drop i=x++r){j:Nat}(D:j=i+x.length):t.extract i j=d8 x:=by subst D;apply cm;rw[dN,bO,h,Nat.add_sub_cancel_left,List.take_left]
theorem PE{x r:List UInt8}(h:(bytes t).drop i=x++r):(bytes t).drop (i+x.length)=r:=by rw[<-vm,h,List.drop_left]
theorem IH{b:UInt8}(h:bo (b.toNat:Int)=true):65<=b.toNat:=by unfold bo at h;simp only[gH,gB,kK,gC]at h;omega
theorem II{b:UInt8}(h:aW (b.toNat:Int)=true):48<=b.toNat/\b.toNat<=57/\bo (b.toNat:Int)=false:=by unfold aW at h;simp only[gB,gC]at h;refine⟨by omega,by omega,?_⟩;unfold bo;(have J:((b.toNat:Int)==95)=false:=by rw[gF];omega);(have I:decide (97<=(b.toNat:Int))=false:=by rw[gK];omega);(have D:decide (65<=(b.toNat:Int))=false:=by rw[gK];omega);rw[J,I,D];rfl
theorem oK{b:UInt8}{n:Nat}(D:n<256)(h:b≠UInt8.ofNat n):b.toNat≠n:=by intro e;apply h;apply UInt8.toNat_inj.1;rw[e,UInt8.toNat_ofNat'];omega
theorem wm{l:List cY}(I:hasPrefix ((bytes t).drop i) [47,47]=false)(D:hasPrefix ((bytes t).drop i) [47,42]=false):iD t i l=none:=by unfold iD;rw[show hasPrefix (t.data.toList.drop i) [47,47]=false from I,show hasPrefix (t.data.toList.drop i) [47,42]=false from D];rfl
theorem iz{a b:UInt8}{p r:List UInt8}(h:a.toNat≠b.toNat):hasPrefix (a::r) (b::p)=false:=by unfold hasPrefix;rw[List.isPrefixOf,show(b==a)=false from beq_eq_false_iff_ne.2 fun e=>h (by rw[e])];rfl
theorem M0{l:List cY}{k:Int}{x r:List UInt8}(hf:¬ (i=0/\hasPrefix (bytes t) [239,187,191]=true))(hd:(bytes t).drop i=x++r)(h:lX r k x):
  i<t.size/\fh t i l=.go (i+x.length) (l++[⟨k,d8 x,(i:Int)⟩]):=by
 unfold fh;rw[gA hf];cases h with
 |word D hr=>
  cases x with
  |nil=>cases D
  |cons a y=>have ga:=D;unfold ny at D;rw[gB]at D;(have hb:aa t i=a.toNat:=by rw[lu,hd];rfl);have N:=IH D.1;(have I:bX (t.data.toList.drop i)=(a::y).length:=by rw[show t.data.toList.drop i=a::y++r from hd];refine yC ?_ hr;rw[kC,D.2];unfold a6;rw[D.1];rfl);refine⟨ne hd,?_⟩;rw[hb,gA (by omega),gA (by omega),wm (by rw[hd];exact iz (by show a.toNat≠47;omega)) (by rw[hd];exact iz (by show a.toNat≠47;omega))];simp only;rw[gE D.1,I,Ch hd rfl]
 |num D hr=>
  cases x with
  |nil=>cases D
  |cons a y=>unfold Sp at D;rw[gB]at D;(have hb:aa t i=a.toNat:=by rw[lu,hd];rfl);have N:=II D.1;(have I:bX (t.data.toList.drop i)=(a::y).length:=by rw[show t.data.toList.drop i=a::y++r from hd];refine yC ?_ hr;rw[kC,D.2];unfold a6;rw[D.1];simp);refine⟨ne hd,?_⟩;rw[hb,gA (by omega),gA (by omega),wm (by rw[hd];exact iz (by show a.toNat≠47;omega)) (by rw[hd];exact iz (by show a.toNat≠47;omega))];simp only;rw[gA (by rw[N.2.2];decide),gE D.1,I,Ch hd rfl]
 |@text y hq=>have J:(bytes t).drop i=34::(y++[34]++r):=hd;(have hb:aa t i=34:=by rw[lu,J];rfl);refine⟨ne J,?_⟩;rw[hb,gA (by decide),gA (by decide),wm (by rw[J];exact iz (by decide)) (by rw[J];exact iz (by decide))];simp only;rw[gA (by decide),gA (by decide),gE (.inl trivial)];unfold sL;rw[hb,show t.data.toList.drop (i+1)=y++34::r by show(bytes t).drop (i+1)=_;rw[<-vm,J];simp,hq];simp only;(have I:(34::y++[34]).length=y.length+2:=by simp);rw[Ch hd (by rw[I];omega),I];rfl
 |sign D hl h1 h2=>
  cases x with
  |nil=>cases D
  |cons a y=>unfold p8 at D;simp only[gB,qr,kU,ne_eq]at D;obtain⟨M,n1,U,O,n4,n5,n6⟩:=D;(have hb:aa t i=a.toNat:=by rw[lu,hd];rfl);have m1:a.toNat≠10:=oK (n:=10) (by decide) n1;have m2:a.toNat≠32:=oK (n:=32) (by decide) U;have m3:a.toNat≠9:=oK (n:=9) (by decide) O;have m4:a.toNat≠13:=oK (n:=13) (by decide) n4;have m5:a.toNat≠34:=oK (n:=34) (by decide) n5;have m6:a.toNat≠96:=oK (n:=96) (by decide) n6;unfold a6 at M;rw[kZ]at M;refine⟨ne hd,?_⟩;rw[hb,gA m1,gA (by omega),wm (by rw[hd];exact h1) (by rw[hd];exact h2)];simp only;rw[gA (by rw[M.1];decide),gA (by rw[M.2];decide),gA (by omega)];unfold mL;rw[Cc,hd,hl,gA (by simp),Ch hd rfl]
end
theorem M1(k:Int)(x:ByteArray)(p q:Int):pv ⟨k,x,p⟩=pv ⟨k,x,q⟩:=rfl
theorem tv{t:ByteArray}(O:hasPrefix (bytes t) [239,187,191]=false):∀(z:List It)(e:Bool)(i:Nat)(l:List cY)(r:List UInt8),(bytes t).drop i=ls z++r->ed l=e->bB e z r->∀g,
  d7 t (g+z.length) i l=d7 t g (i+(ls z).length) (l++dT i z)
 |[],e,i,l,r,_,_,_,g=>by show d7 t g i l=d7 t g (i+0) (l++[]);rw[kG,jP]
 |a::z,e,i,l,r,hd,he,U,g=>by
  (have N:¬ (i=0/\hasPrefix (bytes t) [239,187,191]=true):=fun h=>by rw[O]at h;exact absurd h.2 (by decide));rw[dB,gL]at hd;have hd2:=PE hd;rw[show g+(a::z).length=g+z.length+1 from rfl,dB,gJ,<-Nat.add_assoc];cases a with
  |tok k x=>obtain⟨J,D⟩:=U;obtain⟨h1,h2⟩:=M0 (l:=l) N hd J;rw[uc h1 h2,tv O z (pC k x) _ _ r hd2 (by rw[ol];exact M1 _ _ _ _) D,gL];rfl
  |gap b=>
   obtain⟨J,D⟩:=U;have I:(bytes t).drop i=b::(ls z++r):=hd;(have hb:aa t i=b.toNat:=by rw[lu,I];rfl);have M:fh t i l=.go (i+1) l:=by
    rcases J with rfl|rfl|⟨rfl,rfl⟩
    ·exact Fm N hb
    ·unfold fh;rw[gA N,gA (by rw[hb];decide),gE (by rw[hb];decide)]
    ·rw[Bv N hb,D6 he]
   rw[uc (ne I) M];exact tv O z e _ _ r hd2 he D g
  |nl=>obtain⟨rfl,D⟩:=U;have I:(bytes t).drop i=10::(ls z++r):=hd;(have hb:aa t i=10:=by rw[lu,I];rfl);(have M:fh t i l=.go (i+1) (l++[⟨6,⟨#[10]⟩,(i:Int)⟩]):=by rw[Bv N hb];unfold fm;rw[he,gE rfl]);have h3:=tv O z false (i+1) (l++[⟨6,⟨#[10]⟩,(i:Int)⟩]) r hd2 (by rw[ol];exact Bu _) D g;rw[uc (ne I) M,h3,gL];rfl
def ik(l:List UInt8):Bool:=l.all fun b=>decide (0<b.toNat)&&decide (b.toNat<128)
theorem yD{t:ByteArray}(h:ik (bytes t)=true)(j:Nat)(D:j<t.size):0<aa t j/\aa t j<128:=by have I:=List.all_eq_true.1 h _ (jC (show j<(bytes t).length from D));rw[gB,gC,gC]at I;rw[uI,gN,gQ (show j<(bytes t).length from D)];exact I
theorem M2{t:ByteArray}{z:List It}(hb:bytes t=ls z)(ga:t.size<=65536)(N:ik (bytes t)=true)(M:bB false z []):fR t=.toks (fm (dT 0 z) (t.size:Int)):=by
 have hf:hasPrefix (bytes t) [239,187,191]=false:=by
  cases hq:bytes t with
  |nil=>rfl
  |cons a r=>refine iz ?_;have U:=List.all_eq_true.1 N a (by rw[hq];simp);rw[gB,gC,gC]at U;show a.toNat≠239;omega
 have J:∀(z:List It)(e:Bool)(r:List UInt8),bB e z r->z.length<=(ls z).length:=by
  intro z;induction z with
  |nil=>intro e r _;simp
  |cons a z ih=>
   intro e r h;rw[dB,gJ,gM];cases a with
   |tok k x=>
    have O:=ih _ _ h.2;have U:0<x.length:=by
     cases h.1 with
     |word D _=>cases x with
       |nil=>cases D
       |cons _ _=>simp
     |num D _=>cases x with
       |nil=>cases D
       |cons _ _=>simp
     |text _=>simp
     |sign D _ _ _=>cases x with
       |nil=>cases D
       |cons _ _=>simp
    show z.length+1<=x.length+_;omega
   |gap b=>have O:=ih _ _ h.2;show z.length+1<=1+_;omega
   |nl=>have O:=ih _ _ h.2;show z.length+1<=1+_;omega
 have hl:=J z false [] M;(have I:(ls z).length=t.size:=by rw[<-hb,bN]);unfold fR;rw[gA (by omega)];have hw:mf t=none:=nW t t.size 0 fun j _ hj=>yD N j hj;rw[hw];show Df (d7 t (t.size+1) 0 [])=_;rw[show t.size+1=t.size-z.length+1+z.length by omega,tv hf z false 0 [] [] (by rw[kW,kG];exact hb) rfl M,I,kR,d7,gA (Nat.lt_irrefl _)];rfl
theorem uK:∀(v:List Nat)(m:Nat),m<10->(∀x∈v,x<10)->v≠[]->v.getLast? ≠ some 0->d6 10 v m=m::v
 |[],_,_,_,h,_=>absurd rfl h
 |[x],m,M,D,_,J=>by have I:=D x (by simp);have N:x≠0:=fun e=>J (by rw[e];rfl);rw[d6,d6,show(x*10+m)%10=m by omega,show(x*10+m)/10=x by omega];unfold iF;rw[gA N,gE I]
 |x::y::v,m,M,D,_,J=>by have I:=D x (by simp);rw[d6,show(x*10+m)%10=m by omega,show(x*10+m)/10=x by omega,uK (y::v) x I (fun z hz=>D z (by simp at hz |-;exact .inr hz)) (by simp) (by rwa [List.getLast?_cons_cons]at J)]
theorem pi{c:UInt8}(h:fk c=true):dZ c.toNat=some (c.toNat-48)/\c.toNat-48<10/\c.toNat≠95/\UInt8.ofNat (48+(c.toNat-48))=c/\(c≠48->c.toNat-48≠0):=by(have key:∀n:Fin 256,fk (UInt8.ofNat n.val)=true->dZ (UInt8.ofNat n.val).toNat=some ((UInt8.ofNat n.val).toNat-48)/\(UInt8.ofNat n.val).toNat-48<10/\(UInt8.ofNat n.val).toNat≠95/\UInt8.ofNat (48+((UInt8.ofNat n.val).toNat-48))=UInt8.ofNat n.val/\(UInt8.ofNat n.val≠48->(UInt8.ofNat n.val).toNat-48≠0):=by decide +kernel);have:=key ⟨c.toNat,vi c⟩;simp only[UInt8.ofNat_toNat]at this;exact this h
theorem tE:∀(l:List UInt8)(v:List Nat)(many:Nat),l.all fk=true->(∀x∈v,x<10)->v≠[]->v.getLast? ≠ some 0 ->
  fD 10 l v false many=some ((l.map fun c=>c.toNat-48).reverse++v,false,many+l.length)
 |[],v,many,_,_,_,_=>rfl
 |c::r,v,many,D,J,M,N=>by rw[kC,gB]at D;obtain⟨U,I,O,-,-⟩:=pi D.1;rw[fD,gA (fun h=>O h.1),U];simp only;rw[gE I,uK v _ I J M N,tE r _ _ D.2 (fun x hx=>by rcases List.mem_cons.1 hx with rfl|hx;exact I;exact J x hx) (by simp) (by cases v with|nil=>exact absurd rfl M|cons y v=>rwa [List.getLast?_cons_cons])];simp;omega
theorem BB{x:ByteArray}(h:iI x=true):lY x=x:=by
 unfold iI at h;rw[gB,gH,gC]at h;obtain⟨M,h⟩:=h;rcases h with rfl|h
 ·decide +kernel
 ·rw[gB,gB,gC,gC,gC]at h;obtain⟨h0,h1,O⟩:=h;cases hb:x.data.toList with
  |nil=>exact absurd (cm (x:=x) (y:=(⟨#[]⟩:BA)) hb) h0
  |cons a r=>
   rw[hb]at M O;have I:a≠48:=fun e=>O (by rw[e];rfl);have J:a.toNat≠48:=fun e=>I (UInt8.toNat_inj.1 e);have D:sF (a::r)=(10,a::r):=by
    cases r with
    |nil=>rfl
    |cons b r=>rw[sF,gA J]
   rw[kC,gB]at M;obtain⟨d1,d2,d3,d4,U⟩:=pi M.1;(have N:fD 10 (a::r) [] false 0=some ((r.map fun c=>c.toNat-48).reverse++[a.toNat-48],false,1+r.length):=by rw[fD,gA (fun h=>d3 h.1),d1];simp only;rw[gE d2,d6,iF,gA (U I),gE d2];exact tE r [a.toNat-48] 1 M.2 (fun x hx=>by simp at hx;omega) (by simp) (by simp;exact U I));unfold lY lA;rw[gA (by omega),hb,D];simp only;rw[gA (by simp;omega),N];simp only;rw[gA (by simp;omega),vo];apply cm;show(((if _=[]then[0]else _:List Nat)).map fun d=>UInt8.ofNat (48+d)).toArray.toList=_;rw[gA (by simp),List.toList_toArray,show bytes x=a::r from hb,List.reverse_append,List.reverse_reverse];show UInt8.ofNat (48+(a.toNat-48))::(r.map fun c=>c.toNat-48).map (fun d=>UInt8.ofNat (48+d))=a::r;rw[d4,ql];congr 1;(conv=>rhs;rw[<-List.map_id r]);exact List.map_congr_left fun c hc=>(pi (List.all_eq_true.1 M.2 c hc)).2.2.2.1
theorem Ed(b:UInt8):(∃y v,cu b=[92,y]/\fj y.toNat=some v/\UInt8.ofNat v=b)\/(cu b=[b]/\b.toNat≠92/\b.toNat≠34/\b.toNat≠10)\/(∃I D v,cu b=[92,120,I,D]/\fM 16 [I,D] 0=some v/\UInt8.ofNat v=b):=by
 unfold cu;by_cases I:b=34
 ·rw[gE I,I];exact .inl ⟨34,34,rfl,rfl,rfl⟩
 rw[gA I];by_cases D:b=92
 ·rw[gE D,D];exact .inl ⟨92,92,rfl,rfl,rfl⟩
 rw[gA D];by_cases J:b=10
 ·rw[gE J,J];exact .inl ⟨110,10,rfl,rfl,rfl⟩
 rw[gA J];by_cases M:b=9
 ·rw[gE M,M];exact .inl ⟨116,9,rfl,rfl,rfl⟩
 rw[gA M];split
 ·exact .inr (.inl ⟨rfl,fun e=>D (UInt8.toNat_inj.1 e),fun e=>I (UInt8.toNat_inj.1 e),fun e=>J (UInt8.toNat_inj.1 e)⟩)
 ·refine .inr (.inr ⟨_,_,b.toNat,rfl,?_,UInt8.ofNat_toNat⟩);(have key:∀n:Fin 256,fM 16 [AI (n.val/16),AI (n.val%16)] 0=some n.val:=by decide +kernel);exact key ⟨b.toNat,vi b⟩
theorem rb:∀(l:List UInt8)(g:Nat),l.length<g->cI g (l.flatMap cu)=some l
 |[],g,h=>by obtain⟨g,rfl⟩:∃g',g=g'+1:=⟨g-1,by simp at h;omega⟩;rfl
 |b::l,g,h=>by
  obtain⟨g,rfl⟩:∃g',g=g'+1:=⟨g-1,by simp at h;omega⟩;have ih:=rb l g (by simpa using h);rw[jA];rcases Ed b with⟨y,v,e,D,I⟩|⟨e,D,I,N⟩|⟨M,J,v,e,D,I⟩
  ·rw[e];show cI (g+1) (92::y::l.flatMap cu)=_;rw[cI,gE (by decide),lT,D];simp only[kL];rw[show(y::l.flatMap cu).drop 1=l.flatMap cu from rfl,ih,I];rfl
  ·rw[e];show cI (g+1) (b::l.flatMap cu)=_;rw[cI,gA D,gA (by omega),ih];rfl
  ·rw[e];show cI (g+1) (92::120::M::J::l.flatMap cu)=_;(have hd:cB (M::J::l.flatMap cu) 2 16=some v:=by unfold cB;rw[gE (by simp)];exact D);rw[cI,gE (by decide),lT,show fj (120:UInt8).toNat=none from rfl];simp only;rw[gE (by decide),hd];simp only[m7,kL];rw[show(120::M::J::l.flatMap cu).drop 3=l.flatMap cu from rfl,ih,I];rfl
theorem rc(l:List UInt8):ik (cj l)=true:=by(have key:∀n:Fin 256,ik (cu (UInt8.ofNat n.val))=true:=by decide +kernel);unfold cj ik;rw[gV,kC,List.all_append];refine Bool.and_eq_true_iff.2 ⟨by decide,Bool.and_eq_true_iff.2 ⟨?_,by decide⟩⟩;rw[List.all_flatMap,qC];intro b _;have:=key ⟨b.toNat,vi b⟩;simp only[UInt8.ofNat_toNat]at this;exact this
theorem BC(l:List UInt8):(cj l).length<=4*l.length+2/\l.length+2<=(cj l).length:=by
 (have key:∀n:Fin 256,(cu (UInt8.ofNat n.val)).length<=4/\1<=(cu (UInt8.ofNat n.val)).length:=by decide +kernel);have h:∀l:List UInt8,(l.flatMap cu).length<=4*l.length/\l.length<=(l.flatMap cu).length:=by
  intro l;induction l with
  |nil=>exact⟨d5 _,d5 _⟩
  |cons b l ih=>have:=key ⟨b.toNat,vi b⟩;simp only[UInt8.ofNat_toNat]at this;rw[jA,gJ,gM];omega
 have:=h l;unfold cj;simp only[gV,gM,gJ,kV];omega
theorem Fz{x:ByteArray}(h:x.size<=1000):i6 (d8 (cj (bytes x)))=x:=by
 have J:=BC (bytes x);rw[bN]at J;(have D:(d8 (cj (bytes x))).size=(cj (bytes x)).length:=by rw[<-bN,bO]);have hb:(d8 (cj (bytes x))).data.toList=cj (bytes x):=bO _;have I:mf (d8 (cj (bytes x)))=none:=nW _ _ 0 fun j _ hj=>yD (by rw[bO];exact rc _) j hj;unfold i6 ec;rw[gA (by omega),hb,gA,gA (fun h=>h I),gE (by rfl)]
 ·(have e:(cj (bytes x)).extract 1 ((d8 (cj (bytes x))).size-1)=(bytes x).flatMap cu:=by rw[D];unfold cj;rw[qg];simp);rw[e,rb _ _ (by rw[bN];omega)];exact cm (bO _)
 ·rintro(h|h)
  ·omega
  ·refine h ?_;unfold cj;rw[List.getLast?_append];rfl
end
section
abbrev TK:=Int×ByteArray
def OK(t:cY):TK:=(t.kind,t.text)
def aF:List It->List TK
 |[]=>[]
 | .tok k x::l=>(k,d8 x)::aF l
 | .gap _::l=>aF l
 | .nl::l=>(6,⟨#[10]⟩)::aF l
theorem aZ:∀a b:List It,aF (a++b)=aF a++aF b
 |[],_=>rfl
 | .tok k x::a,b=>by rw[gV,aF,aF,aZ a b];rfl
 | .gap _::a,b=>by rw[gV,aF,aF,aZ a b]
 | .nl::a,b=>by rw[gV,aF,aF,aZ a b];rfl
def At(c:Cx)(s:St)(l:List TK):Prop:=s.at_<=c.toks.length/\(c.toks.drop s.at_).map OK=l
def et:List TK->TK
 |[]=>(0,⟨#[]⟩)
 |t::_=>t
def cO(t:TK)(x:ByteArray):Bool:=(t.1==2||t.1==6)&&decide (t.2=x)
section
variable {c:Cx} {s:St} {l r:List TK} {t:TK}
theorem At.len(h:At c s l):s.at_+l.length=c.toks.length:=by rw[<-h.2,jV,gR];have:=h.1;omega
theorem At.tok(h:At c s l):((ar c s.at_).kind,(ar c s.at_).text)=et l:=by
 obtain⟨J,I⟩:=h;rcases jZ s.at_ c.toks.length with D|D
 ·rw[pX D,<-I,jX D];rfl
 ·rw[pW D,<-I,jU D];rfl
theorem At.kind(h:At c s l):(ar c s.at_).kind=(et l).1:=by rw[<-h.tok]
theorem At.text(h:At c s l):(ar c s.at_).text=(et l).2:=by rw[<-h.tok]
theorem At.is(h:At c s l)(x:ByteArray):aP c s x=cO (et l) x:=by unfold aP OM cO;rw[h.kind,h.text]
theorem At.adv(h:At c s (t::l)):At c (adv s) l:=by
 obtain⟨J,D⟩:=h;rcases jZ s.at_ c.toks.length with I|I
 ·rw[jX I,jW]at D;injection D with _ D;exact⟨I,D⟩
 ·rw[jU I]at D;cases D
theorem At.hd(h:At c s l)(b:Bool):At c { s with head:=b } l:=h
theorem At.pt(h:At c s l)(p:Int):At c { s with part:=p } l:=h
theorem At.slice(h:At c s l):dp c s=(cO (et l) ⟨#[91]⟩&&((et l.tail).1==6&&decide ((et l.tail).2=(⟨#[93]⟩:BA)))):=by
 unfold dp;rw[h.is];congr 1;cases l with
 |nil=>have:=h.len;rw[qB (by simp at this;omega)];rfl
 |cons t l=>
  have J:=h.adv;cases l with
  |nil=>have:=h.len;rw[qB (by simp at this;omega)];rfl
  |cons u l=>(have I:s.at_+1<c.toks.length:=by have:=h.len;simp at this;omega);have D:=J.tok;rw[show(Go.Proofs.YtiebcdeafofgdaaGreatDoor.adv s).at_=s.at_+1 from rfl,pX I]at D;rw[gQ I];show(c.toks[s.at_+1].kind==6&&decide (c.toks[s.at_+1].text=(⟨#[93]⟩:BA)))=(u.1==6&&decide (u.2=(⟨#[93]⟩:BA)));have D:(c.toks[s.at_+1].kind,c.toks[s.at_+1].text)=u:=D;rw[<-D]
theorem At.yes(h:At c s (t::l)){x:ByteArray}(D:cO t x=true):aP c s x=true:=by rw[h.is];exact D
theorem At.no(h:At c s (t::l)){x:ByteArray}(D:cO t x=false):¬ aP c s x=true:=by rw[h.is];show ¬ cO t x=true;rw[D];decide
theorem fl(h:At c s (t::l))(x:ByteArray)(D:cO t x=true):need x c s=.ok () (adv s):=by unfold need;rw[gE (by rw[h.is];exact D)]
theorem mr{x:ByteArray}(h:At c s ((1,x)::l)):cG c s=.ok x (adv s):=by unfold cG;rw[gE (by rw[h.kind];rfl),h.text];rfl
end
def oL(c:Cx)(s:St)(r:List TK)(n:Nd)(p:Int)(res:bH Nd):Prop:=∃n' s',res=.ok n' s'/\cA n' n/\At c s' r/\s'.head=s.head/\s'.part=p
def yE(c:Cx)(s:St)(r:List TK)(Q:Nd->Prop)(p:Int)(res:bH Nd):Prop:=∃n' s',res=.ok n' s'/\Q n'/\At c s' r/\s'.head=s.head/\s'.part=p
def Tw(c:Cx)(s:St)(r:List TK)(Q:List Nd->Prop)(p:Int)(res:bH (List Nd)):Prop:=∃l' s',res=.ok l' s'/\Q l'/\At c s' r/\s'.head=s.head/\s'.part=p
inductive nz(Q:Nd->Nd->Prop):List Nd->List Nd->Prop where
 |nil:nz Q [] []
 |cons {x y:Nd} {l m:List Nd}:Q x y->nz Q l m->nz Q (x::l) (y::m)
theorem nz.app{Q:Nd->Nd->Prop}{p q:List Nd}(D:nz Q p q):∀{l m:List Nd},nz Q l m->nz Q (l++p) (m++q)
 |_,_,.nil=>D
 |_,_,.cons h hs=>.cons h (nz.app D hs)
theorem nz.one{Q:Nd->Nd->Prop}{x y:Nd}(h:Q x y):nz Q [x] [y]:=.cons h .nil
theorem nz.eqv:∀{l m:List Nd},nz cA l m->bm l m
 |_,_,.nil=>bm.nil
 |_,_,.cons h hs=>bm.cons h (nz.eqv hs)
def eO(t:TK):List (List TK)->List TK
 |[]=>[]
 |[x]=>x
 |x::y::r=>x++(t::eO t (y::r))
theorem Ci(s:List It)(t:TK)(hs:aF s=[t]):∀L:List (List It),aF (cv s L)=eO t (L.map aF)
 |[]=>rfl
 |[x]=>rfl
 |x::y::r=>by rw[cv,aZ,aZ,hs,Ci s t hs (y::r)];rfl
def dU:TK:=(6,(⟨#[44]⟩:BA))
theorem rv(L:List (List It)):aF (cv ci L)=eO dU (L.map aF):=Ci ci dU rfl L
theorem nX{α:Type}(f:Nd->α)(l:List Nd):(l.map fun x=>(f x,x)).map (·.2)=l:=by rw[ql];exact List.map_id _
theorem tw{α:Type}(f:Nd->α)(l:List Nd):(l.map fun x=>(f x,x)).map (·.1)=l.map f:=by rw[ql];rfl
theorem mc(b:UInt8)(l:List It):aF (cX b::l)=(6,d8 [b])::aF l:=rfl
def dJ(t:TK):Bool:=t.1==1||(t.1==4||(t.1==5||(cO t ⟨#[102,117,110,99]⟩||(cO t ⟨#[40]⟩||(cO t ⟨#[91]⟩||(cO t ⟨#[45]⟩||cO t ⟨#[33]⟩))))))
theorem tz{t:TK}{x y:ByteArray}(h:cO t x=true)(D:x≠y):cO t y=false:=by unfold cO at h |-;rw[gB,gC]at h;rw[h.2,jD D,vk]
theorem nA{t:TK}(h:t.1=1\/t.1=4\/t.1=5)(x:ByteArray):cO t x=false:=by unfold cO;rcases h with h|h|h<;>rw[h]<;>rfl
theorem bS{t:TK}(h:dJ t=true)(x:ByteArray)(N:(⟨#[102,117,110,99]⟩:BA)≠x)(M:(⟨#[40]⟩:BA)≠x)(J:(⟨#[91]⟩:BA)≠x)(I:(⟨#[45]⟩:BA)≠x)(D:(⟨#[33]⟩:BA)≠x):cO t x=false:=by
 unfold dJ at h;simp only[gH,kK]at h;rcases h with h|h|h|h|h|h|h|h
 ·exact nA (.inl h) x
 ·exact nA (.inr (.inl h)) x
 ·exact nA (.inr (.inr h)) x
 ·exact tz h N
 ·exact tz h M
 ·exact tz h J
 ·exact tz h I
 ·exact tz h D
theorem yF{c:Cx}{part:R Nd}{en:ByteArray}(Q:Nd->Nd->Prop){P:St->List TK->Prop}(U:cO dU en=false)(D:cO (6,en) en=true)(p:Int)
  (hP:∀s l,P s l->∀s' l',At c s' l'->s.at_<=s'.at_->s'.head=s.head->s'.part=p->P s' l'):
  ∀(L:List (List TK×Nd))(g:Nat)(acc acc':List Nd)(s:St)(r:List TK),
    At c s (eO dU (L.map (·.1))++((6,en)::r))->s.part=p->c.toks.length-s.at_<g->P s (eO dU (L.map (·.1))++((6,en)::r))->nz Q acc' acc ->
    (∀x∈L,cO (et x.1) en=false/\x.1≠[]/\∀s r,At c s (x.1++r)->P s (x.1++r)->s.part=p->(et r=dU\/et r=(6,en))->yE c s r (fun n'=>Q n' x.2) p (part c s)) ->
    Tw c s r (fun l'=>nz Q l' (acc++L.map (·.2))) p (aX part en g acc' c s)
 |_,0,_,_,_,_,_,_,hg,_,_,_=>absurd hg (by omega)
 |[],g+1,acc,acc',s,r,h,hp,_,_,ha,_=>by have h:At c s ((6,en)::r):=h;unfold aX;rw[gE (by rw[h.is];exact D)];exact⟨acc',adv s,rfl,by simpa using ha,h.adv,rfl,hp⟩
 |x::L,g+1,acc,acc',s,r,h,hp,hg,M,ha,hL=>by
  obtain⟨x1,x2,x3⟩:=hL x (by simp);have e:∃O,eO dU ((x::L).map (·.1))++((6,en)::r)=x.1++O/\((L=[]/\O=(6,en)::r)\/(L≠[]/\O=dU::(eO dU (L.map (·.1))++((6,en)::r)))):=by
   cases L with
   |nil=>exact⟨_,rfl,.inl ⟨rfl,rfl⟩⟩
   |cons y L=>exact⟨_,by rw[jW,jW,eO,gL];rfl,.inr ⟨by simp,rfl⟩⟩
  obtain⟨O,e1,e2⟩:=e;rw[e1]at h M;unfold aX;have ga:aP c s en=false:=by
   rw[h.is];cases hx:x.1 with
   |nil=>exact absurd hx x2
   |cons t q=>rw[hx]at x1;exact x1
  rw[gA (by rw[ga];decide)];obtain⟨n',N,g1,g2,J,g4,g5⟩:=x3 s O h M hp (by rcases e2 with⟨_,rfl⟩|⟨_,rfl⟩;exact .inr rfl;exact .inl rfl);rw[g1];simp only[bH.bind_ok];(have gd:s.at_+1<=N.at_:=by have l1:=h.len;have l2:=J.len;rw[gJ]at l1;have:0<x.1.length:=List.length_pos_iff.2 x2;omega);have I:nz Q (acc'++[n']) (acc++[x.2]):=nz.app (nz.one g2) ha;rcases e2 with⟨rfl,rfl⟩|⟨gb,rfl⟩
  ·rw[gE (by rw[J.is];exact D)];exact⟨acc'++[n'],adv N,rfl,by simpa using I,J.adv,g4,g5⟩
  ·rw[gA (by rw[J.is];show ¬ cO dU en=true;rw[U];decide),fl J ⟨#[44]⟩ (by decide)];simp only[bH.bind_ok];(have hb:c.toks.length-(adv N).at_<g:=by show c.toks.length-(N.at_+1)<g;have:=J.len;simp at this;omega);have:=yF Q U D p hP L g (acc++[x.2]) (acc'++[n']) (adv N) r J.adv g5 hb (hP s _ M _ _ J.adv (by show s.at_<=N.at_+1;omega) g4 g5) I fun y hy=>hL y (by simp[hy]);obtain⟨l',s',f1,f2,f3,f4,f5⟩:=this;exact⟨l',s',f1,by simpa using f2,f3,by rw[f4];exact g4,f5⟩
theorem Cj{c:Cx}{part:R Nd}{en:ByteArray}{P:St->List TK->Prop}(I:cO dU en=false)(D:cO (6,en) en=true)(p:Int)
  (N:∀s l,P s l->∀s' l',At c s' l'->s.at_<=s'.at_->s'.head=s.head->s'.part=p->P s' l')(L:List (List TK×Nd))(g:Nat)(s:St)(r:List TK)
   (h:At c s (eO dU (L.map (·.1))++((6,en)::r)))(J:s.part=p)(M:c.toks.length-s.at_<g)(U:P s (eO dU (L.map (·.1))++((6,en)::r)))
   (O:∀x∈L,cO (et x.1) en=false/\x.1≠[]/\∀s r,At c s (x.1++r)->P s (x.1++r)->s.part=p->(et r=dU\/et r=(6,en))->oL c s r x.2 p (part c s)):
   Tw c s r (fun l'=>bm l' (L.map (·.2))) p (aX part en g [] c s):=by obtain⟨l',s',f1,f2,f3⟩:=yF cA I D p N L g [] [] s r h J M U .nil O;exact⟨l',s',f1,f2.eqv,f3⟩
end
end Go.Proofs.YtiebcdeafofgdaaGreatDoor
