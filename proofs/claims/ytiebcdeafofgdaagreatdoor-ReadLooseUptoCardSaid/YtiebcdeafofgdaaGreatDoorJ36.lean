/-
  Parts of the proof: Pit Ppq Pval Ppa. By an AI agent.
-/
import Derived.Test.YtiebcdeafofgdaaGreatDoorJ35
import Derived.Test.YtiebcdeafofgdaaGreatDoorJ34
import Derived.Test.YtiebcdeafofgdaaGreatDoorJ02
import Derived.Test.YtiebcdeafofgdaaGreatDoorJ01
import Derived.Test.YtiebcdeafofgdaaGreatDoorJ33
import Derived.Test.YtiebcdeafofgdaaGreatDoorJ12
import Derived.Sort.Walk0
import Derived.Shelf.SlSortCmp.Insertion
import Derived.Lib.SlicesCompact
import Derived.Laws.StructEq
namespace Go.Proofs.YtiebcdeafofgdaaGreatDoor
section
open Go.Lib
theorem qe:type_of% @Bool.or_eq_false_iff:=@Bool.or_eq_false_iff
theorem vq:type_of% @List.map_map:=@List.map_map
def nB(k:Int)(x:List UInt8):Bool:=oN ⟨k,d7 x,0⟩
def mM:List UInt8->Bool
 |[]=>false
 |a::r=>aJ (a.toNat:Int)&&r.all fun c=>aL (c.toNat:Int)
def Se:List UInt8->Bool
 |[]=>false
 |a::r=>av (a.toNat:Int)&&r.all fun c=>aL (c.toNat:Int)
def tH:List UInt8->Bool
 |[]=>true
 |b::_ =>!(aL (b.toNat:Int))
def nd:List UInt8->Bool
 |[]=>false
 |b::_ =>!(aL (b.toNat:Int))&&(b != 10&&(b != 32&&(b != 9&&(b != 13&&(b != 34&&b != 96)))))
inductive ft(r:List UInt8):Int->List UInt8->Prop where
 |word {x:List UInt8} (h:mM x=true) (hr:tH r=true):ft r (bM (d7 x)+1) x
 |num {x:List UInt8} (h:Se x=true) (hr:tH r=true):ft r 4 x
 |text {y:List UInt8} (h:∀r,bi 34 (y++34::r) false 0=some y.length):ft r 5 (34::y++[34])
 |sign {x:List UInt8} (h:nd x=true) (hl:pX (x++r)=x.length) (h1:hasPrefix (x++r) [47,47]=false) (h2:hasPrefix (x++r) [47,42]=false):ft r 6 x
def bj:Bool->List It->List UInt8->Prop
 |_,[],_=>True
 |e,.nl::z,r=>e=true/\bj false z r
 |e,.gap b::z,r=>(b=32\/b=9\/(b=10/\e=false))/\bj e z r
 |_,.tok k x::z,r=>ft (fX z++r) k x/\bj (nB k x) z r
def ir:Nat->List It->List cO
 |_,[]=>[]
 |i,.tok k x::z=>⟨k,d7 x,(i:Int)⟩::ir (i+x.length) z
 |i,.gap _::z=>ir (i+1) z
 |i,.nl::z=>⟨6,⟨#[10]⟩,(i:Int)⟩::ir (i+1) z
theorem pZ{p:UInt8->Bool}:∀(x r:List UInt8),x.all p=true->(∀b q,r=b::q->p b=false)->(x++r).takeWhile p=x
 |[],r,_,h=>by
  cases r with
  |nil=>rfl
  |cons b q=>rw[vb,qB,h b q rfl];rfl
 |a::x,r,D,h=>by rw[kz,gB]at D;rw[jP,qB,gF D.1,pZ x r D.2 h]
theorem uV{x r:List UInt8}(I:x.all (fun c=>aL (c.toNat:Int))=true)(D:tH r=true):bQ (x++r)=x.length:=by unfold bQ;rw[pZ x r I];rintro b q rfl;unfold tH at D;simpa using D
section
variable {t:ByteArray} {i:Nat}
theorem iC:ac t i=(((bytes t).drop i).getD 0 0).toNat:=by rw[tG,gR,gR,qH,jD]
theorem me{a:UInt8}{r:List UInt8}(h:(bytes t).drop i=a::r):i<t.size:=by
 rcases kN i t.size with D|D
 ·exact D
 ·rw[jS (by rw[cm];exact D)]at h;cases h
theorem AT{x r:List UInt8}(h:(bytes t).drop i=x++r){j:Nat}(D:j=i+x.length):t.extract i j=d7 x:=by subst D;apply cg;rw[ez,bH,h,Nat.add_sub_cancel_left,List.take_left]
theorem Po{x r:List UInt8}(h:(bytes t).drop i=x++r):(bytes t).drop (i+x.length)=r:=by rw[<-vC,h,List.drop_left]
theorem GU{b:UInt8}(h:aJ (b.toNat:Int)=true):65<=b.toNat:=by unfold aJ at h;simp only[gI,gB,kF,gE]at h;omega
theorem GV{b:UInt8}(h:av (b.toNat:Int)=true):48<=b.toNat/\b.toNat<=57/\aJ (b.toNat:Int)=false:=by unfold av at h;simp only[gB,gE]at h;refine⟨by omega,by omega,?_⟩;unfold aJ;(have J:((b.toNat:Int)==95)=false:=by rw[gC];omega);(have I:decide (97<=(b.toNat:Int))=false:=by rw[gJ];omega);(have D:decide (65<=(b.toNat:Int))=false:=by rw[gJ];omega);rw[J,I,D];rfl
theorem nC{b:UInt8}{n:Nat}(D:n<256)(h:b≠UInt8.ofNat n):b.toNat≠n:=by intro e;apply h;apply UInt8.toNat_inj.1;rw[e,UInt8.toNat_ofNat'];omega
theorem tZ{l:List cO}(I:hasPrefix ((bytes t).drop i) [47,47]=false)(D:hasPrefix ((bytes t).drop i) [47,42]=false):fR t i l=none:=by unfold fR;rw[show hasPrefix (t.data.toList.drop i) [47,47]=false from I,show hasPrefix (t.data.toList.drop i) [47,42]=false from D];rfl
theorem fM{a b:UInt8}{p r:List UInt8}(h:a.toNat≠b.toNat):hasPrefix (a::r) (b::p)=false:=by unfold hasPrefix;rw[List.isPrefixOf,show(b==a)=false from beq_eq_false_iff_ne.2 fun e=>h (by rw[e])];rfl
theorem Ml{l:List cO}{k:Int}{x r:List UInt8}(hf:¬ (i=0/\hasPrefix (bytes t) [239,187,191]=true))(hd:(bytes t).drop i=x++r)(h:ft r k x):
  i<t.size/\ey t i l=.go (i+x.length) (l++[⟨k,d7 x,(i:Int)⟩]):=by
 unfold ey;rw[d5 hf];cases h with
 |word D hr=>
  cases x with
  |nil=>cases D
  |cons a y=>have ga:=D;unfold mM at D;rw[gB]at D;(have hb:ac t i=a.toNat:=by rw[iC,hd];rfl);have N:=GU D.1;(have I:bQ (t.data.toList.drop i)=(a::y).length:=by rw[show t.data.toList.drop i=a::y++r from hd];refine uV ?_ hr;rw[kz,D.2];unfold aL;rw[D.1];rfl);refine⟨me hd,?_⟩;rw[hb,d5 (by omega),d5 (by omega),tZ (by rw[hd];exact fM (by show a.toNat≠47;omega)) (by rw[hd];exact fM (by show a.toNat≠47;omega))];simp only;rw[gF D.1,I,AT hd rfl]
 |num D hr=>
  cases x with
  |nil=>cases D
  |cons a y=>unfold Se at D;rw[gB]at D;(have hb:ac t i=a.toNat:=by rw[iC,hd];rfl);have N:=GV D.1;(have I:bQ (t.data.toList.drop i)=(a::y).length:=by rw[show t.data.toList.drop i=a::y++r from hd];refine uV ?_ hr;rw[kz,D.2];unfold aL;rw[D.1];simp);refine⟨me hd,?_⟩;rw[hb,d5 (by omega),d5 (by omega),tZ (by rw[hd];exact fM (by show a.toNat≠47;omega)) (by rw[hd];exact fM (by show a.toNat≠47;omega))];simp only;rw[d5 (by rw[N.2.2];decide),gF D.1,I,AT hd rfl]
 |@text y hq=>have J:(bytes t).drop i=34::(y++[34]++r):=hd;(have hb:ac t i=34:=by rw[iC,J];rfl);refine⟨me J,?_⟩;rw[hb,d5 (by decide),d5 (by decide),tZ (by rw[J];exact fM (by decide)) (by rw[J];exact fM (by decide))];simp only;rw[d5 (by decide),d5 (by decide),gF (.inl trivial)];unfold rN;rw[hb,show t.data.toList.drop (i+1)=y++34::r by show(bytes t).drop (i+1)=_;rw[<-vC,J];simp,hq];simp only;(have I:(34::y++[34]).length=y.length+2:=by simp);rw[AT hd (by rw[I];omega),I];rfl
 |sign D hl h1 h2=>
  cases x with
  |nil=>cases D
  |cons a y=>unfold nd at D;simp only[gB,qv,kZ,ne_eq]at D;obtain⟨M,n1,U,O,n4,n5,n6⟩:=D;(have hb:ac t i=a.toNat:=by rw[iC,hd];rfl);have m1:a.toNat≠10:=nC (n:=10) (by decide) n1;have m2:a.toNat≠32:=nC (n:=32) (by decide) U;have m3:a.toNat≠9:=nC (n:=9) (by decide) O;have m4:a.toNat≠13:=nC (n:=13) (by decide) n4;have m5:a.toNat≠34:=nC (n:=34) (by decide) n5;have m6:a.toNat≠96:=nC (n:=96) (by decide) n6;unfold aL at M;rw[qe]at M;refine⟨me hd,?_⟩;rw[hb,d5 m1,d5 (by omega),tZ (by rw[hd];exact h1) (by rw[hd];exact h2)];simp only;rw[d5 (by rw[M.1];decide),d5 (by rw[M.2];decide),d5 (by omega)];unfold lQ;rw[AN,hd,hl,d5 (by simp),AT hd rfl]
end
theorem Mm(k:Int)(x:ByteArray)(p q:Int):oN ⟨k,x,p⟩=oN ⟨k,x,q⟩:=rfl
theorem se{t:ByteArray}(U:hasPrefix (bytes t) [239,187,191]=false):∀(z:List It)(e:Bool)(i:Nat)(l:List cO)(r:List UInt8),(bytes t).drop i=fX z++r->eg l=e->bj e z r->∀g,
  dG t (g+z.length) i l=dG t g (i+(fX z).length) (l++ir i z)
 |[],e,i,l,r,_,_,_,g=>by show dG t g i l=dG t g (i+0) (l++[]);rw[kG,jD]
 | a::z,e,i,l,r,hd,he,hz,g=>by
  (have O:¬ (i=0/\hasPrefix (bytes t) [239,187,191]=true):=fun h=>by rw[U]at h;exact absurd h.2 (by decide));rw[cD,gO]at hd;have N:=Po hd;rw[show g+(a::z).length=g+z.length+1 from rfl,cD,gL,<-Nat.add_assoc];cases a with
  |tok k x=>obtain⟨J,D⟩:=hz;obtain⟨h1,h2⟩:=Ml (l:=l) O hd J;rw[sV h1 h2,se U z (nB k x) _ _ r N (by rw[pY];exact Mm _ _ _ _) D,gO];rfl
  | gap b=>
   obtain⟨J,D⟩:=hz;have I:(bytes t).drop i=b::(fX z++r):=hd;(have hb:ac t i=b.toNat:=by rw[iC,I];rfl);have M:ey t i l=.go (i+1) l:=by
    rcases J with rfl|rfl|⟨rfl,rfl⟩
    ·exact Ei O hb
    ·unfold ey;rw[d5 O,d5 (by rw[hb];decide),gF (by rw[hb];decide)]
    ·rw[yQ O hb,Mk he]
   rw[sV (me I) M];exact se U z e _ _ r N he D g
  |nl=>obtain⟨rfl,D⟩:=hz;have I:(bytes t).drop i=10::(fX z++r):=hd;(have hb:ac t i=10:=by rw[iC,I];rfl);(have M:ey t i l=.go (i+1) (l++[⟨6,⟨#[10]⟩,(i:Int)⟩]):=by rw[yQ O hb];unfold dY;rw[he,gF rfl]);have h3:=se U z false (i+1) (l++[⟨6,⟨#[10]⟩,(i:Int)⟩]) r N (by rw[pY];exact GT _) D g;rw[sV (me I) M,h3,gO];rfl
def fC(l:List UInt8):Bool:=l.all fun b=>decide (0<b.toNat)&&decide (b.toNat<128)
theorem uW{t:ByteArray}(h:fC (bytes t)=true)(j:Nat)(D:j<t.size):0<ac t j/\ac t j<128:=by have I:=List.all_eq_true.1 h _ (gX (show j<(bytes t).length from D));rw[gB,gE,gE]at I;rw[tG,gR,gN (show j<(bytes t).length from D)];exact I
theorem Mn{t:ByteArray}{z:List It}(hb:bytes t=fX z)(ga:t.size<=65536)(N:fC (bytes t)=true)(M:bj false z []):fy t=.toks (dY (ir 0 z) (t.size:Int)):=by
 have hf:hasPrefix (bytes t) [239,187,191]=false:=by
  cases hq:bytes t with
  |nil=>rfl
  |cons a r=>refine fM ?_;have U:=List.all_eq_true.1 N a (by rw[hq];simp);rw[gB,gE,gE]at U;show a.toNat≠239;omega
 have J:∀(z:List It)(e:Bool)(r:List UInt8),bj e z r->z.length<=(fX z).length:=by
  intro z;induction z with
  |nil=>intro e r _;simp
  | cons a z ih=>
   intro e r h;rw[cD,gL,gS];cases a with
   | tok k x=>
    have O:=ih _ _ h.2;have U:0<x.length:=by
     cases h.1 with
     | word D _=>cases x with
       |nil=>cases D
       |cons _ _=>simp
     | num D _=>cases x with
       |nil=>cases D
       |cons _ _=>simp
     |text _=>simp
     | sign D _ _ _=>cases x with
       |nil=>cases D
       |cons _ _=>simp
    show z.length+1<=x.length+_;omega
   |gap b=>have O:=ih _ _ h.2;show z.length+1<=1+_;omega
   |nl=>have O:=ih _ _ h.2;show z.length+1<=1+_;omega
 have hl:=J z false [] M;(have I:(fX z).length=t.size:=by rw[<-hb,cm]);unfold fy;rw[d5 (by omega)];have hw:lq t=none:=mL t t.size 0 fun j _ hj=>uW N j hj;rw[hw];show BX (dG t (t.size+1) 0 [])=_;rw[show t.size+1=t.size-z.length+1+z.length by omega,se hf z false 0 [] [] (by rw[qb,kG];exact hb) rfl M,I,kS,dG,d5 (Nat.lt_irrefl _)];rfl
theorem tJ:∀(v:List Nat)(m:Nat),m<10->(∀x∈v,x<10)->v≠[]->v.getLast? ≠ some 0->ec 10 v m=m::v
 |[],_,_,_,h,_=>absurd rfl h
 |[x],m,M,D,_,J=>by have I:=D x (by simp);have N:x≠0:=fun e=>J (by rw[e];rfl);rw[ec,ec,show(x*10+m)%10=m by omega,show(x*10+m)/10=x by omega];unfold iG;rw[d5 N,gF I]
 |x::y::v,m,M,D,_,J=>by have I:=D x (by simp);rw[ec,show(x*10+m)%10=m by omega,show(x*10+m)/10=x by omega,tJ (y::v) x I (fun z hz=>D z (by simp at hz |-;exact .inr hz)) (by simp) (by rwa [List.getLast?_cons_cons]at J)]
theorem oe{c:UInt8}(h:eF c=true):dD c.toNat=some (c.toNat-48)/\c.toNat-48<10/\c.toNat≠95/\UInt8.ofNat (48+(c.toNat-48))=c/\(c≠48->c.toNat-48≠0):=by(have key:∀n:Fin 256,eF (UInt8.ofNat n.val)=true->dD (UInt8.ofNat n.val).toNat=some ((UInt8.ofNat n.val).toNat-48)/\(UInt8.ofNat n.val).toNat-48<10/\(UInt8.ofNat n.val).toNat≠95/\UInt8.ofNat (48+((UInt8.ofNat n.val).toNat-48))=UInt8.ofNat n.val/\(UInt8.ofNat n.val≠48->(UInt8.ofNat n.val).toNat-48≠0):=by decide +kernel);have:=key ⟨c.toNat,vw c⟩;simp only[UInt8.ofNat_toNat]at this;exact this h
theorem sq:∀(l:List UInt8)(v:List Nat)(many:Nat),l.all eF=true->(∀x∈v,x<10)->v≠[]->v.getLast? ≠ some 0 ->
  fP 10 l v false many=some ((l.map fun c=>c.toNat-48).reverse++v,false,many+l.length)
 |[],v,many,_,_,_,_=>rfl
 |c::r,v,many,D,J,M,N=>by rw[kz,gB]at D;obtain⟨U,I,O,-,-⟩:=oe D.1;rw[fP,d5 (fun h=>O h.1),U];simp only;rw[gF I,tJ v _ I J M N,sq r _ _ D.2 (fun x hx=>by rcases List.mem_cons.1 hx with rfl|hx;exact I;exact J x hx) (by simp) (by cases v with|nil=>exact absurd rfl M|cons y v=>rwa [List.getLast?_cons_cons])];simp;omega
theorem yV{x:ByteArray}(h:dt x=true):mT x=x:=by
 unfold dt at h;rw[gB,gI,gE]at h;obtain⟨M,h⟩:=h;rcases h with rfl|h
 ·decide +kernel
 ·rw[gB,gB,gE,gE,gE]at h;obtain⟨h0,h1,O⟩:=h;cases hb:x.data.toList with
  |nil=>exact absurd (cg (x:=x) (y:=(⟨#[]⟩:BA)) hb) h0
  | cons a r=>
   rw[hb]at M O;have I:a≠48:=fun e=>O (by rw[e];rfl);have J:a.toNat≠48:=fun e=>I (UInt8.toNat_inj.1 e);have D:uj (a::r)=(10,a::r):=by
    cases r with
    |nil=>rfl
    |cons b r=>rw[uj,d5 J]
   rw[kz,gB]at M;obtain⟨d1,d2,d3,d4,U⟩:=oe M.1;(have N:fP 10 (a::r) [] false 0=some ((r.map fun c=>c.toNat-48).reverse++[a.toNat-48],false,1+r.length):=by rw[fP,d5 (fun h=>d3 h.1),d1];simp only;rw[gF d2,ec,iG,d5 (U I),gF d2];exact sq r [a.toNat-48] 1 M.2 (fun x hx=>by simp at hx;omega) (by simp) (by simp;exact U I));unfold mT lp;rw[d5 (by omega),hb,D];simp only;rw[d5 (by simp;omega),N];simp only;rw[d5 (by simp;omega),vz];apply cg;show(((if _=[]then[0]else _:List Nat)).map fun d=>UInt8.ofNat (48+d)).toArray.toList=_;rw[d5 (by simp),List.toList_toArray,show bytes x=a::r from hb,List.reverse_append,List.reverse_reverse];show UInt8.ofNat (48+(a.toNat-48))::(r.map fun c=>c.toNat-48).map (fun d=>UInt8.ofNat (48+d))=a::r;rw[d4,vq];congr 1;(conv=>rhs;rw[<-List.map_id r]);exact List.map_congr_left fun c hc=>(oe (List.all_eq_true.1 M.2 c hc)).2.2.2.1
theorem CU(b:UInt8):(∃y v,ce b=[92,y]/\eE y.toNat=some v/\UInt8.ofNat v=b)\/(ce b=[b]/\b.toNat≠92/\b.toNat≠34/\b.toNat≠10)\/(∃I D v,ce b=[92,120,I,D]/\fo 16 [I,D] 0=some v/\UInt8.ofNat v=b):=by
 unfold ce;by_cases I:b=34
 ·rw[gF I,I];exact .inl ⟨34,34,rfl,rfl,rfl⟩
 rw[d5 I];by_cases D:b=92
 ·rw[gF D,D];exact .inl ⟨92,92,rfl,rfl,rfl⟩
 rw[d5 D];by_cases J:b=10
 ·rw[gF J,J];exact .inl ⟨110,10,rfl,rfl,rfl⟩
 rw[d5 J];by_cases M:b=9
 ·rw[gF M,M];exact .inl ⟨116,9,rfl,rfl,rfl⟩
 rw[d5 M];split
 ·exact .inr (.inl ⟨rfl,fun e=>D (UInt8.toNat_inj.1 e),fun e=>I (UInt8.toNat_inj.1 e),fun e=>J (UInt8.toNat_inj.1 e)⟩)
 ·refine .inr (.inr ⟨_,_,b.toNat,rfl,?_,UInt8.ofNat_toNat⟩);(have key:∀n:Fin 256,fo 16 [yk (n.val/16),yk (n.val%16)] 0=some n.val:=by decide +kernel);exact key ⟨b.toNat,vw b⟩
theorem pa:∀(l:List UInt8)(g:Nat),l.length<g->dn g (l.flatMap ce)=some l
 |[],g,h=>by obtain⟨g,rfl⟩:∃g',g=g'+1:=⟨g-1,by simp at h;omega⟩;rfl
 |b::l,g,h=>by
  obtain⟨g,rfl⟩:∃g',g=g'+1:=⟨g-1,by simp at h;omega⟩;have ih:=pa l g (by simpa using h);rw[jH];rcases CU b with⟨y,v,e,D,I⟩|⟨e,D,I,N⟩|⟨M,J,v,e,D,I⟩
  ·rw[e];show dn (g+1) (92::y::l.flatMap ce)=_;rw[dn,gF (by decide),lO,D];simp only[kV];rw[show(y::l.flatMap ce).drop 1=l.flatMap ce from rfl,ih,I];rfl
  ·rw[e];show dn (g+1) (b::l.flatMap ce)=_;rw[dn,d5 D,d5 (by omega),ih];rfl
  ·rw[e];show dn (g+1) (92::120::M::J::l.flatMap ce)=_;(have hd:cw (M::J::l.flatMap ce) 2 16=some v:=by unfold cw;rw[gF (by simp)];exact D);rw[dn,gF (by decide),lO,show eE (120:UInt8).toNat=none from rfl];simp only;rw[gF (by decide),hd];simp only[qf,kV];rw[show(120::M::J::l.flatMap ce).drop 3=l.flatMap ce from rfl,ih,I];rfl
theorem pb(l:List UInt8):fC (bW l)=true:=by(have key:∀n:Fin 256,fC (ce (UInt8.ofNat n.val))=true:=by decide +kernel);unfold bW fC;rw[jP,kz,qQ];refine Bool.and_eq_true_iff.2 ⟨by decide,Bool.and_eq_true_iff.2 ⟨?_,by decide⟩⟩;rw[List.all_flatMap,qI];intro b _;have:=key ⟨b.toNat,vw b⟩;simp only[UInt8.ofNat_toNat]at this;exact this
theorem yW(l:List UInt8):(bW l).length<=4*l.length+2/\l.length+2<=(bW l).length:=by
 (have key:∀n:Fin 256,(ce (UInt8.ofNat n.val)).length<=4/\1<=(ce (UInt8.ofNat n.val)).length:=by decide +kernel);have h:∀l:List UInt8,(l.flatMap ce).length<=4*l.length/\l.length<=(l.flatMap ce).length:=by
  intro l;induction l with
  |nil=>exact⟨gA _,gA _⟩
  |cons b l ih=>have:=key ⟨b.toNat,vw b⟩;simp only[UInt8.ofNat_toNat]at this;rw[jH,gL,gS];omega
 have:=h l;unfold bW;simp only[jP,gS,gL,qa];omega
theorem Es{x:ByteArray}(h:x.size<=1000):lT (d7 (bW (bytes x)))=x:=by
 have J:=yW (bytes x);rw[cm]at J;(have D:(d7 (bW (bytes x))).size=(bW (bytes x)).length:=by rw[<-cm,bH]);have hb:(d7 (bW (bytes x))).data.toList=bW (bytes x):=bH _;have I:lq (d7 (bW (bytes x)))=none:=mL _ _ 0 fun j _ hj=>uW (by rw[bH];exact pb _) j hj;unfold lT dT;rw[d5 (by omega),hb,d5,d5 (fun h=>h I),gF (by rfl)]
 ·(have e:(bW (bytes x)).extract 1 ((d7 (bW (bytes x))).size-1)=(bytes x).flatMap ce:=by rw[D];unfold bW;rw[qG];simp);rw[e,pa _ _ (by rw[cm];omega)];exact cg (bH _)
 ·rintro(h|h)
  ·omega
  ·refine h ?_;unfold bW;rw[List.getLast?_append];rfl
def Fz:List UInt8:=32::bytes oC++[32]
def Rx:List UInt8:=32::bytes oP++[32]
def Tt:List UInt8:=32::bytes sN++[32]
def FA(a b:UInt8):Bool:=(a==60&&b==60)||((a==62&&b==62)||((a==38&&b==94)||(a==46&&b==46)))
theorem C8{a b c:UInt8}(h:FA a b=false):contains Fz (32::[a,b,c]++[32])=false:=by
 cases N:contains Fz (32::[a,b,c]++[32])with
 |false=>rfl
 |true=>exfalso;obtain⟨k,D,M⟩:=rn N;have J:=mZ M;(have D:k<18:=by rw[uR.1]at D;omega);(have key:(List.range 18).all (fun k=>let w:=(Fz.drop k).take 5;!(decide (w.length=5)&&(w.getD 0 0==32&&w.getD 4 0==32))||FA (w.getD 1 0) (w.getD 2 0))=true:=by decide +kernel);have I:=List.all_eq_true.1 key k (List.mem_range.2 D);rw[show(Fz.drop k).take 5=[32,a,b,c,32]from J]at I;simp[h]at I
def Ib(a b:UInt8):Bool :=!(FA a b)&&(!(contains Rx [32,a,b,32])&&contains Tt [32,a,32])
def Tu(a b:UInt8):Bool :=!(FA a b)&&contains Rx [32,a,b,32]
theorem Ic{a b:UInt8}(h:Ib a b=true)(r:List UInt8):pX (a::b::r)=1:=by
 unfold Ib at h;simp only[gB,qv]at h;obtain⟨M,J,I⟩:=h;unfold pX;rw[d5,d5,gF]
 ·exact⟨by simp,I⟩
 ·rintro⟨-,h⟩;rw[show contains (32::bytes oP++[32]) (32::(a::b::r).take 2++[32])=false from J]at h;cases h
 ·rintro⟨D,h⟩;cases r with
  |nil=>simp at D
  |cons c r=>rw[show contains (32::bytes oC++[32]) (32::(a::b::c::r).take 3++[32])=false from C8 M]at h;cases h
theorem Id{a b:UInt8}(h:Tu a b=true)(r:List UInt8):pX (a::b::r)=2:=by
 unfold Tu at h;simp only[gB,qv]at h;obtain⟨J,I⟩:=h;unfold pX;rw[d5,gF]
 ·exact⟨by simp,I⟩
 ·rintro⟨D,h⟩;cases r with
  |nil=>simp at D
  |cons c r=>rw[show contains (32::bytes oC++[32]) (32::(a::b::c::r).take 3++[32])=false from C8 J]at h;cases h
theorem ft.one{a b:UInt8}{r:List UInt8}(h:Ib a b=true)(J:nd [a]=true)(I:a=47->b≠47/\b≠42):ft (b::r) 6 [a]:=by
 refine .sign J (Ic h r) ?_ ?_
 ·show([47,47]:List UInt8).isPrefixOf (a::b::r)=false;by_cases D:a=47
  ·simp[List.isPrefixOf,Ne.symm (I D).1]
  ·simp[List.isPrefixOf,Ne.symm D]
 ·show([47,42]:List UInt8).isPrefixOf (a::b::r)=false;by_cases D:a=47
  ·simp[List.isPrefixOf,Ne.symm (I D).2]
  ·simp[List.isPrefixOf,Ne.symm D]
theorem ft.two{a b:UInt8}{r:List UInt8}(h:Tu a b=true)(I:nd [a]=true)(D:a≠47):ft r 6 [a,b]:=by
 refine .sign I (Id h r) ?_ ?_
 ·exact fM (fun e=>D (UInt8.toNat_inj.1 e))
 ·exact fM (fun e=>D (UInt8.toNat_inj.1 e))
theorem ft.wordK{k:Int}{x r:List UInt8}(I:k=bM (d7 x)+1)(h:mM x=true)(D:tH r=true):ft r k x:=by subst I;exact .word h D
theorem MT:∀(g:Nat)(n:Nd),dK g (m8 n)->dK g n
 |0,_,h=>h
 |g+1,n,h=>by refine⟨by have D:=h.1;rw[eJ,il,jT]at D;exact D,fun k I=>MT g k (h.2 _ ?_)⟩;rw[eJ];exact List.mem_map.2 ⟨k,I,rfl⟩
theorem MU:∀(g:Nat)(n:Nd),dK g n->dK g (m8 n)
 |0,_,h=>h
 |g+1,n,h=>by refine⟨by rw[eJ,il,jT];exact h.1,fun k hk=>?_⟩;rw[eJ]at hk;obtain⟨y,D,rfl⟩:=List.mem_map.1 hk;exact MU g y (h.2 _ D)
theorem co.dle{n m:Nd}{g:Nat}(h:co n m)(hd:dK g n):dK g m:=MT g m (by rw[<-show m8 n=m8 m from h];exact MU g n hd)
theorem C9{n:Nd}{g:Nat}(h:dK g n):∀k,dK (g+k) n
 |0=>h
 |k+1=>(C9 h k).succ
end
section
abbrev TK:=Int×ByteArray
def Mo(t:cO):TK:=(t.kind,t.text)
def aH:List It->List TK
 |[]=>[]
 | .tok k x::l=>(k,d7 x)::aH l
 | .gap _::l=>aH l
 | .nl::l=>(6,⟨#[10]⟩)::aH l
theorem aR:∀a b:List It,aH (a++b)=aH a++aH b
 |[],_=>rfl
 | .tok k x::a,b=>by rw[jP,aH,aH,aR a b];rfl
 | .gap _::a,b=>by rw[jP,aH,aH,aR a b]
 | .nl::a,b=>by rw[jP,aH,aH,aR a b];rfl
def At(c:Cx)(s:St)(l:List TK):Prop:=s.at_<=c.toks.length/\(c.toks.drop s.at_).map Mo=l
def et:List TK->TK
 |[]=>(0,⟨#[]⟩)
 |t::_=>t
def cW(t:TK)(x:ByteArray):Bool:=(t.1==2||t.1==6)&&decide (t.2=x)
section
variable {c:Cx} {s:St} {l r:List TK} {t:TK}
theorem At.len(h:At c s l):s.at_+l.length=c.toks.length:=by rw[<-h.2,jT,gY];have:=h.1;omega
theorem At.tok(h:At c s l):((ay c s.at_).kind,(ay c s.at_).text)=et l:=by
 obtain⟨J,I⟩:=h;rcases kN s.at_ c.toks.length with D|D
 ·rw[Cy D,<-I,jX D];rfl
 ·rw[Cw D,<-I,jS D];rfl
theorem At.kind(h:At c s l):(ay c s.at_).kind=(et l).1:=by rw[<-h.tok]
theorem At.text(h:At c s l):(ay c s.at_).text=(et l).2:=by rw[<-h.tok]
theorem At.is(h:At c s l)(x:ByteArray):aS c s x=cW (et l) x:=by unfold aS Te cW;rw[h.kind,h.text]
theorem At.adv(h:At c s (t::l)):At c (adv s) l:=by
 obtain⟨J,D⟩:=h;rcases kN s.at_ c.toks.length with I|I
 ·rw[jX I,kE]at D;injection D with _ D;exact⟨I,D⟩
 ·rw[jS I]at D;cases D
theorem At.hd(h:At c s l)(b:Bool):At c { s with head:=b } l:=h
theorem At.pt(h:At c s l)(p:Int):At c { s with part:=p } l:=h
theorem At.slice(h:At c s l):dE c s=(cW (et l) ⟨#[91]⟩&&((et l.tail).1==6&&decide ((et l.tail).2=(⟨#[93]⟩:BA)))):=by
 unfold dE;rw[h.is];congr 1;cases l with
 |nil=>have:=h.len;rw[qZ (by simp at this;omega)];rfl
 |cons t l=>
  have J:=h.adv;cases l with
  |nil=>have:=h.len;rw[qZ (by simp at this;omega)];rfl
  |cons u l=>(have I:s.at_+1<c.toks.length:=by have:=h.len;simp at this;omega);have D:=J.tok;rw[show(Go.Proofs.YtiebcdeafofgdaaGreatDoor.adv s).at_=s.at_+1 from rfl,Cy I]at D;rw[gN I];show(c.toks[s.at_+1].kind==6&&decide (c.toks[s.at_+1].text=(⟨#[93]⟩:BA)))=(u.1==6&&decide (u.2=(⟨#[93]⟩:BA)));have D:(c.toks[s.at_+1].kind,c.toks[s.at_+1].text)=u:=D;rw[<-D]
theorem At.yes(h:At c s (t::l)){x:ByteArray}(D:cW t x=true):aS c s x=true:=by rw[h.is];exact D
theorem At.no(h:At c s (t::l)){x:ByteArray}(D:cW t x=false):¬ aS c s x=true:=by rw[h.is];show ¬ cW t x=true;rw[D];decide
theorem fN(h:At c s (t::l))(x:ByteArray)(D:cW t x=true):ci x c s=.ok () (adv s):=by unfold ci;rw[gF (by rw[h.is];exact D)]
theorem t6{x:ByteArray}(h:At c s ((1,x)::l)):eK c s=.ok x (adv s):=by unfold eK;rw[gF (by rw[h.kind];rfl),h.text];rfl
end
def sf(c:Cx)(s:St)(r:List TK)(n:Nd)(p:Int)(res:cC Nd):Prop:=∃n' s',res=.ok n' s'/\co n' n/\At c s' r/\s'.head=s.head/\s'.part=p
def AU(c:Cx)(s:St)(r:List TK)(Q:Nd->Prop)(p:Int)(res:cC Nd):Prop:=∃n' s',res=.ok n' s'/\Q n'/\At c s' r/\s'.head=s.head/\s'.part=p
def Sf(c:Cx)(s:St)(r:List TK)(Q:List Nd->Prop)(p:Int)(res:cC (List Nd)):Prop:=∃l' s',res=.ok l' s'/\Q l'/\At c s' r/\s'.head=s.head/\s'.part=p
inductive iW(Q:Nd->Nd->Prop):List Nd->List Nd->Prop where
 |nil:iW Q [] []
 |cons {x y:Nd} {l m:List Nd}:Q x y->iW Q l m->iW Q (x::l) (y::m)
theorem iW.app{Q:Nd->Nd->Prop}{p q:List Nd}(D:iW Q p q):∀{l m:List Nd},iW Q l m->iW Q (l++p) (m++q)
 |_,_,.nil=>D
 |_,_,.cons h hs=>.cons h (iW.app D hs)
theorem iW.one{Q:Nd->Nd->Prop}{x y:Nd}(h:Q x y):iW Q [x] [y]:=.cons h .nil
theorem iW.eqv:∀{l m:List Nd},iW co l m->bF l m
 |_,_,.nil=>bF.nil
 |_,_,.cons h hs=>bF.cons h (iW.eqv hs)
def fg(t:TK):List (List TK)->List TK
 |[]=>[]
 |[x]=>x
 |x::y::r=>x++(t::fg t (y::r))
theorem Ff(s:List It)(t:TK)(hs:aH s=[t]):∀L:List (List It),aH (dk s L)=fg t (L.map aH)
 |[]=>rfl
 |[x]=>rfl
 |x::y::r=>by rw[dk,aR,aR,hs,Ff s t hs (y::r)];rfl
def cX:TK:=(6,(⟨#[44]⟩:BA))
theorem sh(L:List (List It)):aH (dk cG L)=fg cX (L.map aH):=Ff cG cX rfl L
theorem mN{α:Type}(f:Nd->α)(l:List Nd):(l.map fun x=>(f x,x)).map (·.2)=l:=by rw[vq];exact List.map_id _
theorem si{α:Type}(f:Nd->α)(l:List Nd):(l.map fun x=>(f x,x)).map (·.1)=l.map f:=by rw[vq];rfl
theorem it(b:UInt8)(l:List It):aH (bS b::l)=(6,d7 [b])::aH l:=rfl
def eD(t:TK):Bool:=t.1==1||(t.1==4||(t.1==5||(cW t ⟨#[102,117,110,99]⟩||(cW t ⟨#[40]⟩||(cW t ⟨#[91]⟩||(cW t ⟨#[45]⟩||cW t ⟨#[33]⟩))))))
theorem sj{t:TK}{x y:ByteArray}(h:cW t x=true)(D:x≠y):cW t y=false:=by unfold cW at h |-;rw[gB,gE]at h;rw[h.2,gM D,jU]
theorem nD{t:TK}(h:t.1=1\/t.1=4\/t.1=5)(x:ByteArray):cW t x=false:=by unfold cW;rcases h with h|h|h<;>rw[h]<;>rfl
theorem cr{t:TK}(h:eD t=true)(x:ByteArray)(N:(⟨#[102,117,110,99]⟩:BA)≠x)(M:(⟨#[40]⟩:BA)≠x)(J:(⟨#[91]⟩:BA)≠x)(I:(⟨#[45]⟩:BA)≠x)(D:(⟨#[33]⟩:BA)≠x):cW t x=false:=by
 unfold eD at h;simp only[gI,kF]at h;rcases h with h|h|h|h|h|h|h|h
 ·exact nD (.inl h) x
 ·exact nD (.inr (.inl h)) x
 ·exact nD (.inr (.inr h)) x
 ·exact sj h N
 ·exact sj h M
 ·exact sj h J
 ·exact sj h I
 ·exact sj h D
theorem uX{c:Cx}{part:R Nd}{en:ByteArray}(Q:Nd->Nd->Prop){P:St->List TK->Prop}(U:cW cX en=false)(D:cW (6,en) en=true)(p:Int)
  (hP:∀s l,P s l->∀s' l',At c s' l'->s.at_<=s'.at_->s'.head=s.head->s'.part=p->P s' l'):
  ∀ (L:List (List TK×Nd))(g:Nat)(acc acc':List Nd)(s:St)(r:List TK),
    At c s (fg cX (L.map (·.1))++((6,en)::r))->s.part=p->c.toks.length-s.at_<g->P s (fg cX (L.map (·.1))++((6,en)::r))->iW Q acc' acc ->
    (∀x∈L,cW (et x.1) en=false/\x.1≠[]/\∀s r,At c s (x.1++r)->P s (x.1++r)->s.part=p->(et r=cX\/et r=(6,en))->AU c s r (fun n'=>Q n' x.2) p (part c s)) ->
    Sf c s r (fun l'=>iW Q l' (acc++L.map (·.2))) p (a6 part en g acc' c s)
 |_,0,_,_,_,_,_,_,hg,_,_,_=>absurd hg (by omega)
 |[],g+1,acc,acc',s,r,h,hp,_,_,ha,_=>by have h:At c s ((6,en)::r):=h;unfold a6;rw[gF (by rw[h.is];exact D)];exact⟨acc',adv s,rfl,by simpa using ha,h.adv,rfl,hp⟩
 | x::L,g+1,acc,acc',s,r,h,hp,hg,M,ha,hL=>by
  obtain⟨x1,x2,x3⟩:=hL x (by simp);have e:∃O,fg cX ((x::L).map (·.1))++((6,en)::r)=x.1++O/\((L=[]/\O=(6,en)::r)\/(L≠[]/\O=cX::(fg cX (L.map (·.1))++((6,en)::r)))):=by
   cases L with
   |nil=>exact⟨_,rfl,.inl ⟨rfl,rfl⟩⟩
   |cons y L=>exact⟨_,by rw[kE,kE,fg,gO];rfl,.inr ⟨by simp,rfl⟩⟩
  obtain⟨O,e1,e2⟩:=e;rw[e1]at h M;unfold a6;have ga:aS c s en=false:=by
   rw[h.is];cases hx:x.1 with
   |nil=>exact absurd hx x2
   |cons t q=>rw[hx]at x1;exact x1
  rw[d5 (by rw[ga];decide)];obtain⟨n',N,g1,g2,J,g4,g5⟩:=x3 s O h M hp (by rcases e2 with⟨_,rfl⟩|⟨_,rfl⟩;exact .inr rfl;exact .inl rfl);rw[g1];simp only[cC.bind_ok];(have gd:s.at_+1<=N.at_:=by have l1:=h.len;have l2:=J.len;rw[gL]at l1;have:0<x.1.length:=List.length_pos_iff.2 x2;omega);have I:iW Q (acc'++[n']) (acc++[x.2]):=iW.app (iW.one g2) ha;rcases e2 with⟨rfl,rfl⟩|⟨gb,rfl⟩
  ·rw[gF (by rw[J.is];exact D)];exact⟨acc'++[n'],adv N,rfl,by simpa using I,J.adv,g4,g5⟩
  ·rw[d5 (by rw[J.is];show ¬ cW cX en=true;rw[U];decide),fN J ⟨#[44]⟩ (by decide)];simp only[cC.bind_ok];(have hb:c.toks.length-(adv N).at_<g:=by show c.toks.length-(N.at_+1)<g;have:=J.len;simp at this;omega);have:=uX Q U D p hP L g (acc++[x.2]) (acc'++[n']) (adv N) r J.adv g5 hb (hP s _ M _ _ J.adv (by show s.at_<=N.at_+1;omega) g4 g5) I fun y hy=>hL y (by simp[hy]);obtain⟨l',s',f1,f2,f3,f4,f5⟩:=this;exact⟨l',s',f1,by simpa using f2,f3,by rw[f4];exact g4,f5⟩
theorem Fg{c:Cx}{part:R Nd}{en:ByteArray}{P:St->List TK->Prop}(I:cW cX en=false)(D:cW (6,en) en=true)(p:Int)
  (N:∀s l,P s l->∀s' l',At c s' l'->s.at_<=s'.at_->s'.head=s.head->s'.part=p->P s' l')(L:List (List TK×Nd))(g:Nat)(s:St)(r:List TK)
   (h:At c s (fg cX (L.map (·.1))++((6,en)::r)))(J:s.part=p)(M:c.toks.length-s.at_<g)(U:P s (fg cX (L.map (·.1))++((6,en)::r)))
   (O:∀x∈L,cW (et x.1) en=false/\x.1≠[]/\∀s r,At c s (x.1++r)->P s (x.1++r)->s.part=p->(et r=cX\/et r=(6,en))->sf c s r x.2 p (part c s)):
   Sf c s r (fun l'=>bF l' (L.map (·.2))) p (a6 part en g [] c s):=by obtain⟨l',s',f1,f2,f3⟩:=uX co I D p N L g [] [] s r h J M U .nil O;exact⟨l',s',f1,f2.eqv,f3⟩
end
end Go.Proofs.YtiebcdeafofgdaaGreatDoor
