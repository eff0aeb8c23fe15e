/-
  Parts of the proof: Gcompact Gsort Msort Gfirst Miter Mlines. By an AI agent.
-/
import Derived.Test.YtcoiialmdncpfaaGreatDoorJ30
import Derived.Test.YtcoiialmdncpfaaGreatDoorJ00
import Derived.Test.YtcoiialmdncpfaaGreatDoorJ23
import Derived.Test.YtcoiialmdncpfaaGreatDoorJ03
import Derived.Test.YtcoiialmdncpfaaGreatDoorJ01
import Derived.Test.YtcoiialmdncpfaaGreatDoorJ21
import Derived.Test.YtcoiialmdncpfaaGreatDoorJ20
import Derived.Test.YtcoiialmdncpfaaGreatDoorJ13
import Derived.Deep.LoopGhost
import Derived.Lib.Walk
import Derived.Lib.SlicesCompact
import Derived.Shelf.SlSortCmp.NoneTotal
import Derived.Deep.DrawnRows
import Derived.Sort.Walk0
import Derived.Sort.Grow
import Derived.Deep.DeepMust
import Derived.Sort.LoopGhostIn
import Derived.Sort.CutIn
import Derived.Sort.BigQuietIn
open Go.Proofs.Tryz
set_option maxRecDepth 100000
set_option maxHeartbeats 8000000
namespace Go.Proofs.YtcoiialmdncpfaaGreatDoor
section
open Go.RowKit Go.Sort Go.Lib Go.Proofs
attribute [local go_sem ↓] Go.wp_at_zero Go.wp_at_succ
theorem lC(x:fe):(o8 x).length=2:=rfl
theorem Fc(x:fe):∀v∈o8 x,v.oneCell'=true:=by intro v D;simp only[o8,vb,qN,xj]at D;rcases D with rfl|rfl<;>rfl
def zU:fe:=(0,0)
theorem pt(x:fe)(w:World):Calls prog 102 #[.agg #[.int .i64 x.1,.int .i64 x.2],.agg #[.int .i64 x.1,.int .i64 x.2]] w fun e w'=>e=.returned (.bool true)/\∃os',w'=Go.Sort.grow w os':=by have:=C7 x x w;simpa using this
theorem pu(x y:fe)(h:x≠y)(w:World):Calls prog 102 #[.agg #[.int .i64 x.1,.int .i64 x.2],.agg #[.int .i64 y.1,.int .i64 y.2]] w fun e w'=>e=.returned (.bool false)/\∃os',w'=Go.Sort.grow w os':=by have:=C7 x y w;simpa[h]using this
def mw(d:Array fe)(blk off cap:Nat)(w:World)(e:Ending)(w':World):Prop:=
 e=.returned (.slice (some ⟨blk,off,none⟩) (compactUpTo d d.size).length cap)/\∃d':Array fe,d'.size=d.size/\(∀j,j<(compactUpTo d d.size).length->(compactUpTo d d.size)[j]? = some d'[j]!)/\SWK o8 2 w blk off d' w'
theorem tC{d:Array fe}{blk off cap:Nat}{w w':World}(J:SWK o8 2 w blk off d w')(I:∀j,j<d.size->keeps d j=true):mw d blk off cap w (.returned (.slice (some ⟨blk,off,none⟩) d.size cap)) w':=by(have e:compactUpTo d d.size=d.toList:=by rw[compactUpTo_all d _ I,range_map_get]);refine⟨by rw[e];simp,d,rfl,fun j hj=>?_,J⟩;rw[e]at hj |-;(have D:j<d.size:=by simpa using hj);rw[vi d j D,gO (by simpa using D)];simp
theorem mx{w w':World}{blk off:Nat}{d dk:Array fe}(M:SWK o8 2 w blk off dk w')(D:blk<w.heap.size)(O:HoldsK o8 2 w blk off d)(J:dk.size=d.size){i:Nat}(I:i<dk.size):
  w'.cell? ⟨blk,off+i*2,none⟩=some (.int .i64 dk[i]!.1)/\w'.cell? ⟨blk,off+i*2+1,none⟩=some (.int .i64 dk[i]!.2):=by have H:=M.holds D O J;exact⟨(H.cell I (show 0<2 by omega)).1,(H.cell I (show 1<2 by omega)).1⟩
theorem NC{w w':World}{blk off:Nat}{d dk:Array fe}(M:SWK o8 2 w blk off dk w')(D:blk<w.heap.size)(O:HoldsK o8 2 w blk off d)(J:dk.size=d.size){i:Nat}(I:i<dk.size):
  w'.frozen? ⟨blk,off+i*2,none⟩=false/\w'.frozen? ⟨blk,off+i*2+1,none⟩=false:=by have H:=M.holds D O J;exact⟨(H.cell I (show 0<2 by omega)).2,(H.cell I (show 1<2 by omega)).2⟩
theorem Gz(a:Addr)(m c:Nat)(ty:TypeId)(w w2:World)(h:(storeCells a (Builtin.zeroCells (Value.agg #[.int .i64 0,.int .i64 0]).cells (m+1)).toList 0).run prog w=.ok () w2):
  (Builtin.clear_ #[117] ty #[.slice (some a) (m+1) c]).run prog w=.ok (.tuple #[]) w2:=by simp only[Builtin.clear_,List.getElem?_toArray,List.getElem?_cons_zero,Sem.run_bind,xp,qF underlying117,xb,zeroValue82,h]
theorem C9(blk off cap:Nat)(d:Array fe)(w:World)(hH:HoldsK o8 2 w blk off d)(I:blk<w.heap.size)(gs:d.size<=2000000)(gr:d.size<=cap):
  Calls prog 101 #[.slice (some ⟨blk,off,none⟩) d.size cap,.func (.func 102) #[] #[]] w fun e w'=>mw d blk off cap w e w':=by
 have HH:Aside (HoldsK o8 2 w blk off d):=hH;have gg:SWK o8 2 w blk off d w:=SWK.start hH;clear hH;by_cases h2:d.size<2
 ·(go_enter func101,ntmps101);go_wp2;go_ret;exact tC gg (fun j hj=>keeps_lt_one d j (by omega))
 ·(go_enter func101,ntmps101);go_wp2;go_loopg [5] d.size (fun g s5 wr=>∃k:Nat,1<=k/\k<=d.size/\d.size-k<=g/\s5=.int .i64 k/\SWK o8 2 w blk off d wr/\∀j,j<k->keeps d j=true)
  case atStart=>exact⟨1,gA _,by omega,by omega,rfl,gg,keeps_lt_one d⟩
  case round=>
   obtain⟨k,gv,hk,hg,rfl,hS,M⟩:=hrel;have HS:Aside (SWK o8 2 w blk off d wr):=hS;have gm:=hS.lt I;clear gg;by_cases gn:k<d.size
   ·obtain⟨a0,a1⟩:=mx hS I HH.out rfl gn;obtain⟨b0,b1⟩:=mx hS I HH.out rfl (i:=k-1) (by omega);have AL:Aside (∀j,j<k->keeps d j=true):=M;clear M hS;generalize hx:d[k]! = x at a0 a1;generalize hy:d[k-1]! = y at b0 b1;have B:Aside (d[k]! = x/\d[k-1]! = y):=⟨hx,hy⟩
    clear hx hy;(have p1:(0:Int)<=(k:Int)-1:=by omega);(have p3:(1:Int)<=(k:Int):=by omega);(have p2:(k:Int)-1<(d.size:Int):=by omega);(have q2:((k:Int)-1).toNat=k-1:=by omega);have q1:IntKind.i64.wrap ((k:Int)-1)=(k:Int)-1:=gQ _ (by omega);by_cases gb:x=y
    ·subst gb;go_wp2_with fail;go_region_held3 (fun w'=>w'.cell? ⟨blk,off+k*2,none⟩=some (.int .i64 x.1)/\w'.cell? ⟨blk,off+k*2+1,none⟩=some (.int .i64 x.2)/\w'.cell? ⟨blk,off+(k-1)*2,none⟩=some (.int .i64 x.1)/\w'.cell? ⟨blk,off+(k-1)*2+1,none⟩=some (.int .i64 x.2))
      (first|go_keep|(go_split_ands;refine⟨?_,?_,?_,?_⟩<;>(rw[cell?_grow _ _ _ gm];assumption)))
      (first|(go_at_call 102;refine(pt _ _).mono ?_;rintro e w'⟨rfl,os,rfl⟩))
     have HW:Aside (SWK o8 2 w blk off d (Go.Sort.grow wr os).drew):=(SWK.grown HS.out 0 os).drew;have AK:Aside (keeps d k=false):=keeps_neg (by omega) (by rw[B.out.1,B.out.2]);clear a0 a1 b0 b1 p1 p2 p3 q1 q2 B;go_wp2_with fail;go_loopg [5,7] d.size (fun g s5 s7 wx=>∃(kk D:Nat)(dk:Array fe),s5=.int .i64 kk/\s7=.int .i64 D/\1<=D/\k+D<=d.size/\d.size-(k+D)<=g/\SWK o8 2 w blk off dk wx/\CompInv d (k+D) kk dk)
     case atStart=>exact⟨k,1,d,rfl,rfl,gA _,by omega,by omega,HW.out,CompInv.start AL.out AK.out⟩
     case round=>
      obtain⟨kk,D,dk,rfl,rfl,h1,gt,gw,J,q⟩:=hrel;have gu:=q.lt;have O:=q.size;have H2:Aside (SWK o8 2 w blk off dk wr):=J;have I2:Aside (CompInv d (k+D) kk dk):=q;have gl:=J.lt I;by_cases gi:k+D<d.size
      ·obtain⟨a0,a1⟩:=mx J I HH.out O (i:=k+D) (by omega);obtain⟨b0,b1⟩:=mx J I HH.out O (i:=k+D-1) (by omega);rw[q.high (k+D) (by omega),show off+(k+D)*2=off+k*2+D*2 by omega]at a0 a1;rw[q.high (k+D-1) (by omega),show off+(k+D-1)*2=off+k*2+(D-1)*2 by omega]at b0 b1;clear J q;generalize hu:d[k+D]! = u at a0 a1;generalize hv:d[k+D-1]! = v at b0 b1;have C:Aside (d[k+D]! = u/\d[k+D-1]! = v):=⟨hu,hv⟩
       clear hu hv;(have p0:(D:Int)<((d.size-k:Nat):Int):=by omega);(have p1:(0:Int)<=(D:Int)-1:=by omega);(have p3:(1:Int)<=(D:Int):=by omega);(have p2:(D:Int)-1<((d.size-k:Nat):Int):=by omega);(have q2:((D:Int)-1).toNat=D-1:=by omega);have q1:IntKind.i64.wrap ((D:Int)-1)=(D:Int)-1:=gQ _ (by omega);by_cases gd:u=v
       ·subst gd;go_wp2_with fail;go_region_held3 (fun w'=>w'.cell? ⟨blk,off+k*2+D*2,none⟩=some (.int .i64 u.1)/\w'.cell? ⟨blk,off+k*2+D*2+1,none⟩=some (.int .i64 u.2)/\w'.cell? ⟨blk,off+k*2+(D-1)*2,none⟩=some (.int .i64 u.1)/\w'.cell? ⟨blk,off+k*2+(D-1)*2+1,none⟩=some (.int .i64 u.2))
         (first|go_keep|(go_split_ands;refine⟨?_,?_,?_,?_⟩<;>(rw[cell?_grow _ _ _ gl];assumption)))
         (first|(go_at_call 102;refine(pt _ _).mono ?_;rintro e w'⟨rfl,z,rfl⟩))
        go_wp2_with fail;go_roundg (d.size-(k+(D+1)))
        case measure=>omega
        case rel=>exact⟨kk,D+1,dk,rfl,by go_num,by omega,by omega,gA _,(SWK.grown H2.out 0 z).drew,I2.out.skip (keeps_neg (by omega) (by rw[C.out.1,C.out.2]))⟩
       ·go_wp2_with fail;go_region_held3 (fun w'=>w'.cell? ⟨blk,off+k*2+D*2,none⟩=some (.int .i64 u.1)/\w'.cell? ⟨blk,off+k*2+D*2+1,none⟩=some (.int .i64 u.2)/\w'.cell? ⟨blk,off+k*2+(D-1)*2,none⟩=some (.int .i64 v.1)/\w'.cell? ⟨blk,off+k*2+(D-1)*2+1,none⟩=some (.int .i64 v.2))
         (first|go_keep|(go_split_ands;refine⟨?_,?_,?_,?_⟩<;>(rw[cell?_grow _ _ _ gl];assumption)))
         (first|(go_at_call 102;refine(pu _ _ gd _).mono ?_;rintro e w'⟨rfl,z,rfl⟩))
        have h:SWK o8 2 w blk off dk (Go.Sort.grow wr.drew z):=(SWK.grown H2.out 0 z).drew;generalize Go.Sort.grow wr.drew z=W2 at h |-;clear a0 a1 b0 b1;obtain⟨a0,a1⟩:=mx h I HH.out O (i:=k+D) (by omega);rw[I2.out.high (k+D) (by omega),show off+(k+D)*2=off+k*2+D*2 by omega,C.out.1]at a0 a1;obtain⟨k0,k1⟩:=mx h I HH.out O (i:=kk) (by omega);obtain⟨f0,f1⟩:=NC h I HH.out O (i:=kk) (by omega);generalize dk[kk]! = old at k0 k1;have H3:Aside (SWK o8 2 w blk off dk W2):=h;clear h;go_wp2_with fail;go_roundg (d.size-(k+(D+1)))
        case measure=>omega
        case rel=>
         refine⟨kk+1,D+1,dk.setIfInBounds kk u,by go_num,by go_num,by omega,by omega,gA _,?_,?_⟩
         ·exact SWK.set H3.out lC I kk (by omega) u
         ·have:=I2.out.keep gi (keeps_pos (by rw[C.out.1,C.out.2];exact gd));rwa [C.out.1]at this
      ·(have yk:k+D=d.size:=by omega);have ge:∀ty,(Builtin.clear_ #[117] ty #[.slice (some ⟨blk,off+kk*2,none⟩) (d.size-kk) (cap-kk)]).run prog wr=.ok (.tuple #[]) (wr.setCells blk (off+kk*2) ((List.replicate (d.size-kk) zU).flatMap o8)):=by
        intro ty;have hz:(Builtin.zeroCells (Value.agg #[.int .i64 0,.int .i64 0]).cells (d.size-kk)).toList=(List.replicate (d.size-kk) zU).flatMap o8:=
         wN (enc:=o8) zU (lC _) (by omega) _
        (have gh:∀v∈(List.replicate (d.size-kk) zU).flatMap o8,v.oneCell'=true:=by intro v hv;obtain⟨x,_,hx⟩:=List.mem_flatMap.1 hv;exact Fc x v hx);have ge:=stores_of_holds prog (J.holds I HH.out O) (kk*2) ((List.replicate (d.size-kk) zU).flatMap o8) (by rw[iF lC,size_flatK,List.length_replicate,<-vS];exact Nat.mul_le_mul_right 2 (by omega)) gh;obtain⟨m,hm⟩:∃m,d.size-kk=m+1:=⟨d.size-kk-1,by omega⟩;rw[hm]at hz ge |-;exact Gz _ _ _ _ _ _ (by rw[hz];exact ge)
       have ga:=SWK.fill lC I zU (d.size-kk) kk dk wr J (by omega);have HF:Aside (∃d':Array fe,d'.size=dk.size/\(∀j,j<kk->d'[j]! = dk[j]!)/\SWK o8 2 w blk off d' (wr.setCells blk (off+kk*2) ((List.replicate (d.size-kk) zU).flatMap o8))):=ga;clear J q ga;go_wp2_with fail;go_ret;obtain⟨d',gx,gq,gp⟩:=HF.out;have q:=I2.out;rw[yk]at q;refine⟨by rw[q.len];rfl,d',by omega,fun j hj=>?_,gp⟩;rw[q.len]at hj;rw[q.low j hj,gq j hj]
    ·go_wp2_with fail;go_region_held3 (fun w'=>w'.cell? ⟨blk,off+k*2,none⟩=some (.int .i64 x.1)/\w'.cell? ⟨blk,off+k*2+1,none⟩=some (.int .i64 x.2)/\w'.cell? ⟨blk,off+(k-1)*2,none⟩=some (.int .i64 y.1)/\w'.cell? ⟨blk,off+(k-1)*2+1,none⟩=some (.int .i64 y.2))
      (first|go_keep|(go_split_ands;refine⟨?_,?_,?_,?_⟩<;>(rw[cell?_grow _ _ _ gm];assumption)))
      (first|(go_at_call 102;refine(pu _ _ gb _).mono ?_;rintro e w'⟨rfl,os,rfl⟩))
     go_wp2_with fail;go_roundg (d.size-(k+1))
     case measure=>omega
     case rel=>
      refine⟨k+1,by omega,by omega,gA _,by go_num,(SWK.grown HS.out 0 os).drew,fun j hj=>?_⟩;by_cases e:j=k
      ·subst e;exact keeps_pos (by rw[B.out.1,B.out.2];exact gb)
      ·exact AL.out j (by omega)
   ·(have gj:k=d.size:=by omega);have HL:Aside (mw d blk off cap w (.returned (.slice (some ⟨blk,off,none⟩) d.size cap)) wr):=tC hS (by rw[<-gj];exact M);clear hS M gj;go_wp2_with fail;go_ret;exact HL.out
theorem GD(blk off size:Nat)(w:World):CmpLays prog 98 #[] o8 2 tO blk off size w:=fun _ _ _ _ x y=>LN x y _
theorem Bm(g off cap:Nat)(d:Array fe)(w:World)(h:HoldsK o8 2 w g off d)(I:g<w.heap.size)(M:d.size<=2000000):
  Calls prog 97 #[.slice (some ⟨g,off,none⟩) d.size cap,.func (.func 98) #[] #[]] w fun e w'=>e=.returned (.tuple #[])/\SWK o8 2 w g off (N6 d.toList).toArray w':=by have eg:∀args w,(callFunc 98 args).run prog w=.ok (.enter 98 args) w:=enters_of func98 (by kernel_rfl) rfl;have D:=AnyQ.slices_SortFunc_total Tryz.sortF 2 isAgg82 sizeOf82 o8 lC Fc tO PB 98 #[] g off cap d w eg (GD g off d.size w) h I (by omega) PC;change Calls prog 97 _ _ _ at D;exact D.mono fun e w'⟨O,n,os,J⟩=>⟨O,n,os,J⟩
theorem yC(p:Option Addr)(cap:Nat)(w:World):
  Calls prog 97 #[.slice p 0 cap,.func (.func 98) #[] #[]] w fun e w'=>e=.returned (.tuple #[])/\w=w':=by have D:=AnyF.slices_SortFunc_none Tryz.sortF p cap (.func (.func 98) #[] #[]) w;change Calls prog 97 _ _ _ at D;exact D.mono fun e w'⟨J,I⟩=>⟨J,I.symm⟩
theorem Bn(p:Option Addr)(cap:Nat)(w:World):
  Calls prog 101 #[.slice p 0 cap,.func (.func 102) #[] #[]] w fun e w'=>e=.returned (.slice p 0 cap)/\w=w':=by(go_enter func101,ntmps101);go_wp2;go_ret;exact⟨rfl,rfl⟩
def OS(w:World)(l:Us)(e:Ending)(w':World):Prop:=
 ∃A c,e=.returned (.slice A l.length c)/\l.length<=c/\aA w' w'.heap.size 2 A l.length (rS l)/\Below w w w'
def mO(n:Nd):Us:=if cB n=true then sd (eP 100 n)else[]
theorem LY(v:Value)(n:Nd)(w:World)(hT:bQ w)(hv:dy w v n)(hw:tQ 101 n)(hc:(bi 100 n).length<=1000000000):
  Calls prog 52 #[v] w fun e w'=>OS w (mO n) e w':=by
 have z:=hid hv;obtain⟨A,cp,rfl,hC⟩:=hv.toC;have hB:=(gC w.heap.size w).alloc (gA _) (.cells #[n.kind,n.text,.slice A n.kids.length cp,n.pos] 41);have b1:aa (w.alloc (.cells #[n.kind,n.text,.slice A n.kids.length cp,n.pos] 41)) w.heap.size 41 #[n.kind,n.text,.slice A n.kids.length cp,n.pos]:=aa.new w _ _;have HR:=hid (Ac _ n _ (hT.below hB) (z.out.below hB) hw hc);have HW:=hid hw;have HV:=hid (z.out.below hB);clear hv hC z hT hw hc;(go_enter func52,ntmps52);go_wp2_with fail;refine HR.out.mono ?_;rintro e w1⟨rfl,M⟩;have q:=hB.trans (M.mono hB.size);cases I:cB n with
 |false=>have HU:=hid (show mO n=[]by unfold mO;rw[gE (by rw[I];decide)]);clear HR I;go_wp2_with fail;go_ret;rw[HU.out];exact⟨none,0,rfl,gA _,⟨rfl,fun h=>absurd h (Nat.lt_irrefl 0)⟩,q⟩
 |true=>
  have HU:=hid (show mO n=sd (eP 100 n)by unfold mO;rw[gL I]);obtain⟨x0,x1,x2,x3,-,-,-,-⟩:=ah (b1.below M (by simp));have hd:ie 100 n:=m8 (tQ.pred HW.out) (by unfold cB at I;simp only[gR,jG]at I;exact I.1);(have hs:(bi 100 n).length<=65536:=by unfold cB ER at I;simp only[gR,jG]at I;exact I.2.1);have HH:=hid (LQ 100 _ n w1 (HV.out.below M) hd ((Ey n I).need 100 n) (by omega));have gk:=mN 100 n;(have gb:(eP 100 n).length<=200000:=by omega);clear HR I gk hd hs M b1;generalize eP 100 n=xs at *;go_wp2_with fail;refine HH.out.mono ?_;rintro e w2⟨⟨v2,rfl,D⟩,gm⟩;have y:=q.trans (gm.mono q.size);have gd:=y.size;clear HH x0 x1 x2 x3;rcases qH xs.length with h0|hpos
  ·obtain rfl:xs=[]:=jI h0;(have hv:∃p cap,v2=.slice p 0 cap:=by obtain⟨p,c,e,_⟩:=D.form;exact⟨p,c,e⟩);obtain⟨p,cap,rfl⟩:=hv;clear h0 D gb;go_wp2_with fail;refine(yC _ _ _).mono ?_;rintro e w3⟨rfl,rfl⟩;go_wp2_with fail;refine(Bn _ _ _).mono ?_;rintro e w3⟨rfl,rfl⟩;go_wp2_with fail;go_ret;(have e0:sd []=[]:=by kernel_rfl);rw[HU.out,e0];exact⟨p,cap,rfl,gT _,⟨rfl,fun h=>absurd h (Nat.lt_irrefl 0)⟩,y⟩
  ·obtain⟨g,cap,rfl,hg,x⟩:=qX D hpos;have hH:=pq lC rfl D;(have gp:xs.length<=cap:=by obtain⟨_,_,e,h⟩:=D.form;injection e with _ _ e;omega);have HH:=hid hH;clear D hH;go_wp2_with fail;have hs:=Bm g 0 cap xs.toArray w2 HH.out x (by simp;omega);rw[show xs.toArray.size=xs.length by simp]at hs;refine hs.mono ?_;clear hs;rintro e w3⟨rfl,hS⟩;have ge:w.heap.size<=g:=gM q.size hg;have gh:=SWK.below hS ge gd;have J:=hS.lt x;have gi:HoldsK o8 2 w3 g 0 (N6 xs).toArray:=hS.holds x HH.out (by simp[oU]);have gj:=hid gi;clear hS gi;go_wp2_with fail;have hc:=C9 g 0 cap (N6 xs).toArray w3 gj.out J (by simp[oU];omega) (by simp[oU];omega);rw[show(N6 xs).toArray.size=xs.length by simp[oU]]at hc;refine hc.mono ?_;clear hc;rintro e w4 hC;obtain⟨he,d',ga,gg,O⟩:=hC;subst he;have gl:=SWK.below O ge (gM gd gh.size);have I:=oA lC (O.holds J gj.out ga) (m:=(sd xs).length) rfl (fun j hj=>gg j (by simpa[sd]using hj)) (by rw[ga];have:=Bl xs;simp[oU];omega) (O.lt J);have gn:=hid I;have gq:=Bl xs;clear I gg O;go_wp2_with fail;go_ret;rw[HU.out];exact⟨some ⟨g,0,none⟩,cap,by simp[sd],by omega,gn.out,(y.trans gh).trans gl⟩
def pX(a b:ByteArray):Int:=if a.toList<b.toList then -1 else if b.toList<a.toList then 1 else 0
theorem Bo(a:ByteArray)(w:World):Calls prog 39 #[a] w fun e w'=>e=.returned (.bool false)/\w=w':=by(go_enter func39,ntmps39);go_wp2;go_ret;exact⟨by simp,rfl⟩
theorem Aw(a b:ByteArray)(w:World):Calls prog 19 #[a,b] w fun e w'=>e=.returned (.int .i64 (pX a b))/\w=w':=by
 have hb:=bytesLess_eq a.toList b.toList;have O:¬ a.toList<b.toList->¬ b.toList<a.toList->a.toList=b.toList:=fun D I=>List.le_antisymm (List.not_lt.1 I) (List.not_lt.1 D);have q:a.toList=b.toList->¬ b.toList<a.toList:=fun h I=>List.lt_irrefl _ (h▸I);by_cases D:a.toList<b.toList
 ·(have y:Op.bytesLess a.toList b.toList=true:=by simp[hb,D]);(have J:pX a b = -1:=by simp[pX,D]);rw[J];clear hb O q D J;(go_enter func19,ntmps19);go_wp2_with (go_at_call 39;refine(Bo _ _).mono ?_;rintro e w'⟨rfl,rfl⟩);go_ret;exact⟨rfl,rfl⟩
 ·(have y:Op.bytesLess a.toList b.toList=false:=by simp[hb,D]);by_cases I:a.toList=b.toList
  ·(have x:(a.toList==b.toList)=true:=by simp[I]);(have J:pX a b=0:=by simp[pX,D,q I]);rw[J];clear hb O q D I J;(go_enter func19,ntmps19);go_wp2_with (go_at_call 39;refine(Bo _ _).mono ?_;rintro e w'⟨rfl,rfl⟩);go_ret;exact⟨rfl,rfl⟩
  ·(have x:(a.toList==b.toList)=false:=by simp[I]);have M:b.toList<a.toList:=by
    by_cases M:b.toList<a.toList
    ·exact M
    ·exact absurd (O D M) I
   (have J:pX a b=1:=by simp[pX,D,M]);rw[J];clear hb O q D I M J;(go_enter func19,ntmps19);go_wp2_with (go_at_call 39;refine(Bo _ _).mono ?_;rintro e w'⟨rfl,rfl⟩);go_ret;exact⟨rfl,rfl⟩
abbrev rU:=ByteArray×Value
def wQ(x:rU):Value:=.agg #[.string x.1,x.2]
theorem EB(x y:rU)(w:World):Calls prog 18 #[wQ x,wQ y] w fun e w'=>e=.returned (.int .i64 (pX x.1 y.1))/\Below w w w':=by have D:=hid (show Below w w ((w.alloc (.cells #[.string x.1,x.2] 46)).alloc (.cells #[.string y.1,y.2] 46))from bel);unfold wQ;(go_enter func18,ntmps18);go_wp2_with fail;refine(Aw _ _ _).mono ?_;rintro e w1⟨rfl,rfl⟩;go_wp2_with fail;go_ret;exact⟨rfl,D.out⟩
theorem wR(a:Array Value)(w:World):(callFunc 18 a).run prog w=.ok (.enter 18 a) w:=by kernel_rfl
def rV(l:List rU):List Value:=l.flatMap fun x=>[.string x.1,x.2]
theorem Dh(x:rU):((fun x:rU=>[Value.string x.1,x.2]) x).length=2:=rfl
theorem NI(A:Option Addr)(cap:Nat)(l:List rU)(w:World)(hr:aA w w.heap.size 2 A l.length (rV l))(hl:l.length<=1000)(ord:∀j(h:j+1<l.length),0<=pX l[j+1].1 l[j].1):
  Calls prog 63 #[.slice A l.length cap,.int .i64 0,.int .i64 l.length,.func (.func 18) #[] #[]] w fun e w'=>e=.returned (.tuple #[])/\Below w w w':=by
 have he:=wR;have HR:=hid hr;have HO:=hid ord;clear hr ord;(go_enter func63,ntmps63);go_wp2_with fail;go_loopg [8] l.length (fun g u8 wr=>∃i:Nat,1<=i/\l.length+1-i<=g+1/\i<=l.length+1/\u8=.int .i64 (i:Int)/\Below w w wr)
 case atStart=>exact⟨1,gA _,by omega,by omega,rfl,gC _ _⟩
 case round=>
  obtain⟨i,gg,hg,ge,rfl,O⟩:=hrel;by_cases J:i<l.length
  ·obtain⟨k,M⟩:∃k,i=k+1:=⟨i-1,by omega⟩;(have q:(i:Int)<(l.length:Int):=by omega);(have gd:(k:Int)<(l.length:Int):=by omega);(have h0:(0:Int)<(i:Int):=by omega);(have h1:(0:Int)<=(i:Int):=by omega);(have h2:(0:Int)<=(k:Int):=by omega);(have q1:IntKind.i64.wrap ((i:Int)-1)=(k:Int):=by rw[show(i:Int)-1=(k:Int)by omega];exact gQ _ (by omega));obtain⟨bk,off,rfl,ga,z⟩:=(HR.out.below O).el Dh (by omega) rfl J;have k0:=z i J 0 _ rfl;have k1:=z i J 1 _ rfl;have m0:=z k (by omega) 0 _ rfl;have m1:=z k (by omega) 1 _ rfl;simp only[kF]at k0 m0;have HC:=hid (fun W=>EB l[i] l[k] W);have HP:Hid (0<=pX l[i].1 l[k].1):=hid (by have h:=HO.out k (by omega);simp only[<-M]at h;exact h);unfold wQ at HC;generalize l[i]=x at *;generalize l[k]=y at *;obtain⟨x1,x2⟩:=x;obtain⟨y1,y2⟩:=y;simp only at k0 k1 m0 m1 HC HP;have gh:=hid M;clear z M;go_wp2_with fail;refine kG 1 ?_;rw[jH];go_wp2_with fail;(have g3:decide (pX x1 y1<0)=false:=by have:=HP.out;rw[gH];omega);have g0:decide ((0:Int)<(i:Int))=true:=jK h0;have g1:decide (0<i)=true:=jK (by omega);(have g2:0<i:=by omega);have D:bk<wr.heap.size:=jY ga O.size;have KS:∀W,Below wr wr W->W.cell? ⟨bk,off+i*2,none⟩=some (.string x1)/\W.cell? ⟨bk,off+i*2+1,none⟩=some x2/\W.cell? ⟨bk,off+k*2,none⟩=some (.string y1)/\W.cell? ⟨bk,off+k*2+1,none⟩=some y2:=
    fun W h=>⟨(h.cell (p:=⟨bk,off+i*2,none⟩) D).trans k0,(h.cell (p:=⟨bk,off+i*2+1,none⟩) D).trans k1,(h.cell (p:=⟨bk,off+k*2,none⟩) D).trans m0,(h.cell (p:=⟨bk,off+k*2+1,none⟩) D).trans m1⟩
   go_region_held3 (fun w'=>w'.cell? ⟨bk,off+i*2,none⟩=some (.string x1)/\w'.cell? ⟨bk,off+i*2+1,none⟩=some x2/\w'.cell? ⟨bk,off+k*2,none⟩=some (.string y1)/\w'.cell? ⟨bk,off+k*2+1,none⟩=some y2)
    (first|exact KS _ (aE (gC _ _) I)|exact KS _ (aE (gC _ _).drew I)|exact KS _ (aE (az (gC _ _) _) I)|exact KS _ (gC _ _)|exact KS _ (gC _ _).drew|exact KS _ (az (gC _ _) _)|exact KS _ bel)
    ((go_at_call 18;refine(HC.out _).mono ?_;rintro e w'⟨rfl,I⟩))
   have gb:Below w w w':=O.trans ((aE (gC wr.heap.size wr).drew I).mono O.size);clear KS HC I O;go_wp2_with fail;go_roundg (l.length-(i+1))
   case measure=>omega
   case rel=>exact⟨i+1,by omega,by omega,by omega,by go_num,gb⟩
  ·(have q:¬ (i:Int)<(l.length:Int):=by omega);go_wp2_with fail;go_end0;exact⟨rfl,O⟩
theorem EC(A:Option Addr)(cap:Nat)(l:List rU)(w:World)(D:aA w w.heap.size 2 A l.length (rV l))(J:l.length<20)(ord:∀j(h:j+1<l.length),0<=pX l[j+1].1 l[j].1):
  Calls prog 38 #[.slice A l.length cap,.int .i64 l.length,.func (.func 18) #[] #[]] w fun e w'=>e=.returned (.tuple #[])/\Below w w w':=by have I:=hid (NI A cap l w D (by omega) ord);(have a1:¬ (20:Int)<=(l.length:Int):=by omega);(have a2:¬ (20:Int)<(l.length:Int):=by omega);clear D ord;(go_enter func38,ntmps38);go_wp2_with fail;refine kG 1 ?_;rw[jH];go_wp2_with fail;refine I.out.mono ?_;rintro e w1⟨rfl,hb⟩;go_wp2_with fail;refine kG 1 ?_;rw[jH];go_wp2_with fail;go_end0;exact⟨rfl,hb⟩
theorem wS(A:Option Addr)(cap:Nat)(l:List rU)(w:World)(D:aA w w.heap.size 2 A l.length (rV l))(I:l.length<20)(ord:∀j(h:j+1<l.length),0<=pX l[j+1].1 l[j].1):
  Calls prog 17 #[.slice A l.length cap,.func (.func 18) #[] #[]] w fun e w'=>e=.returned (.tuple #[])/\Below w w w':=by have J:=hid (EC A cap l w D I ord);clear D ord;(go_enter func17,ntmps17);go_wp2_with fail;refine J.out.mono ?_;rintro e w1⟨rfl,hb⟩;go_wp2_with fail;go_end0;exact⟨rfl,hb⟩
end
section
open Go.RowKit Go.Lib Go.Proofs
attribute [local go_sem ↓] Go.wp_at_zero Go.wp_at_succ
def wO(m:Int):Us->Nat->Int
 |[],_ =>-1
 |u::l,i=>if m<u.1 then(i:Int)else wO m l (i+1)
theorem GE(m:Int)(l:Us)(i:Nat)(D:i<l.length):wO m (l.drop i) i=if m<l[i].1 then(i:Int)else wO m (l.drop (i+1)) (i+1):=by rw[jX D,wO]
theorem wP(m:Int):∀(l:Us)(i:Nat),(wO m l i = -1/\l.find? (fun u=>decide (m<u.1))=none)\/∃(j:Nat)(h:j<l.length),wO m l i=((i+j:Nat):Int)/\l.find? (fun u=>decide (m<u.1))=some l[j]
 |[],i=>.inl ⟨rfl,rfl⟩
 | u::l,i=>by
  rw[wO,List.find?_cons];by_cases h:m<u.1
  ·exact .inr ⟨0,by simp,by rw[gL h];rfl,by simp[h]⟩
  ·rw[gE h];simp only[h,decide_false];rcases wP m l (i+1)with⟨I,D⟩|⟨j,J,I,D⟩
   ·exact .inl ⟨I,D⟩
   ·exact .inr ⟨j+1,by simpa using J,by rw[I];congr 1;omega,by rw[D];rfl⟩
theorem Pn{w:World}{g:Nat}{t:TypeId}{a b:Value}(h:aa w g t #[a,b]):w.cell? ⟨g,0,none⟩=some a/\w.cell? ⟨g,1,none⟩=some b/\w.frozen? ⟨g,0,none⟩=false/\w.frozen? ⟨g,1,none⟩=false:=by have c0:=h.cell 0;have c1:=h.cell 1;simp at c0 c1;exact⟨c0,c1,h.frozen 0,h.frozen 1⟩
theorem LZ(a:Array Value)(w:World):(callFunc 54 a).run prog w=.ok (.enter 54 a) w:=by kernel_rfl
theorem L0(x y m:Int)(b:Nat)(w:World)(hb:aa w b 3 #[m]):
  Calls prog 54 #[.agg #[x,y],.pointer (some ⟨b,0,none⟩)] w fun e w'=>e=.returned (.bool (decide (m<x)))/\Below w w w':=by have J:=(gC w.heap.size w).alloc (gA _) (.cells #[x,y] 82);have M:=aw (hb.alloc (.cells #[x,y] 82));have I:=hb.lt;(have D:b≠w.heap.size:=by omega);have c0:=aw hb;clear hb;(go_enter func54,ntmps54);go_wp2_with fail;go_ret;exact⟨rfl,J⟩
theorem Ez(m:Int)(b:Nat)(A:Option Addr)(c:Nat)(l:Us)(w:World)(hr:aA w w.heap.size 2 A l.length (rS l))(hb:aa w b 3 #[m])(hl:l.length<=1000000000):
  Calls prog 53 #[.slice A l.length c,.func (.func 54) #[] #[b]] w fun e w'=>e=.returned (.int .i64 (wO m l 0))/\Below w w w':=by
 have he:=LZ;have HR:=hid hr;have ga:=hid hb;generalize y:wO m l 0=I;have HI:=hid y;clear hr hb y;(go_enter func53,ntmps53);go_wp2_with fail;go_loopg [5,8] l.length (fun g _ u8 wr=>∃i:Nat,i<=l.length/\l.length-i<=g/\u8=.int .i64 (i:Int)/\wO m (l.drop i) i=I/\Below w w wr)
 case atStart=>exact⟨0,gT _,by omega,rfl,by simpa using HI.out,gC _ _⟩
 case round=>
  obtain⟨i,hi,hg,rfl,y,h⟩:=hrel;have HI:=hid y;clear y;by_cases J:i<l.length
  ·(have q:(i:Int)<(l.length:Int):=by omega);(have h0:(0:Int)<=(i:Int):=by omega);obtain⟨bk,off,rfl,gd,hc⟩:=(HR.out.below h).el lC (by omega) rfl J;have k0:=hc i J 0 _ rfl;have k1:=hc i J 1 _ rfl;simp only[kF]at k0;have HC:=hid (L0 l[i].1 l[i].2 m b wr (ga.out.below h ga.out.lt));have HE:=hid (GE m l i J);generalize l[i]=x at *;obtain⟨xm,xa⟩:=x;clear hc;by_cases hP:m<xm
   ·have z:=hid (show I=(i:Int)by rw[<-HI.out,HE.out,gL hP]);go_wp2_with fail;refine HC.out.mono ?_;rw[jK hP];rintro e w1⟨rfl,D⟩;have O:=h.trans (D.mono h.size);clear D HC;go_wp2_with fail;go_ret;exact⟨by rw[z.out];rfl,O⟩
   ·have z:Hid (wO m (l.drop (i+1)) (i+1)=I):=hid (by rw[<-HI.out,HE.out,gE hP]);have gb:=hid hP;go_wp2_with fail;refine HC.out.mono ?_;rw[show decide (m<xm)=false by have:=gb.out;rw[gH];omega];rintro e w1⟨rfl,D⟩;have O:=h.trans (D.mono h.size);clear D HC;go_wp2_with fail;go_roundg (l.length-(i+1))
    case measure=>omega
    case rel=>exact⟨i+1,by omega,gA _,by go_num,z.out,O⟩
  ·(have q:¬ (i:Int)<(l.length:Int):=by omega);have M:l.drop i=[]:=jZ (by omega);have z:Hid (I = -1):=hid (by rw[<-HI.out,M];rfl);clear M;go_wp2_with fail;go_ret;exact⟨by rw[z.out];rfl,h⟩
theorem tF{fn:Func}{q r:Tmp}(J:fn.results = #[.cell q 82,.tmp r])(tmps:Array Value){w:World}{g:Nat}{a b v:Value}(O:tmps.getD q undef=.pointer (some ⟨g,0,none⟩))(M:tmps.getD r undef=v)(hb:aa w g 82 #[a,b]):
  (results fn tmps).run prog w=.ok (.tuple #[.agg #[a,b],v]) w:=by obtain⟨x,h,_,_⟩:=Pn hb;unfold results;rw[J];(have I:tmps[q]?.getD undef=.pointer (some ⟨g,0,none⟩):=by simpa using O);(have D:tmps[r]?.getD undef=v:=by simpa using M);simp[I,D,go_sem,x,h]
def EA(o:Option (Int×Int)):Value:=
 match o with
 |some u=>.tuple #[.agg #[.int .i64 u.1,.int .i64 u.2],.bool true]
 |none=>.tuple #[.agg #[.int .i64 0,.int .i64 0],.bool false]
def nB(m:Int)(n:Nd):Option (Int×Int):=(mO n).find? fun u=>decide (m<u.1)
theorem L1(n:Nd)(D:(bi 100 n).length<=1000000000):(mO n).length<=2000000000:=by
 unfold mO;split
 ·have:=Bl (eP 100 n);have:=mN 100 n;omega
 ·simp
theorem GF(v:Value)(n:Nd)(m:Int)(w:World)(hT:bQ w)(hv:dy w v n)(hw:tQ 101 n)(q:(bi 100 n).length<=400000000):
  Calls prog 27 #[v,m] w fun e w'=>e=.returned (EA (nB m n))/\Below w w w':=by
 have gb:=hid hv;obtain⟨A,cp,rfl,hC⟩:=hv.toC;have hB:=((((gC w.heap.size w).alloc (gA _) (.cells #[n.kind,n.text,.slice A n.kids.length cp,n.pos] 41)).alloc (by simp) (.cells #[m] 3))).alloc (by simp;omega) (.cells #[.int .i64 0,.int .i64 0] 82);have b3:aa ((((w.alloc (.cells #[n.kind,n.text,.slice A n.kids.length cp,n.pos] 41)).alloc (.cells #[m] 3))).alloc (.cells #[.int .i64 0,.int .i64 0] 82)) (w.heap.size+1) 3 #[m]:=
  (aa.new_at (by simp) _ _).alloc _
 have b4:aa ((((w.alloc (.cells #[n.kind,n.text,.slice A n.kids.length cp,n.pos] 41)).alloc (.cells #[m] 3))).alloc (.cells #[.int .i64 0,.int .i64 0] 82)) (w.heap.size+2) 82 #[.int .i64 0,.int .i64 0]:=
  aa.new_at (by simp) _ _
 have HU:=hid (LY _ n _ (hT.below hB) (gb.out.below hB) hw (by omega));have HL:=hid (L1 n (by omega));have HS:=hid (show((((w.alloc (.cells #[n.kind,n.text,.slice A n.kids.length cp,n.pos] 41)).alloc (.cells #[m] 3))).alloc (.cells #[.int .i64 0,.int .i64 0] 82)).heap.size=w.heap.size+3 by simp);have HC:=hid (wP m (mO n) 0);have HF:=hid (show nB m n=(mO n).find? (fun u=>decide (m<u.1))from rfl);have hl:(mO n).length<=800000000:=by
  have:=mN 100 n;unfold mO;split
  ·have:=Bl (eP 100 n);omega
  ·simp
 clear hv hC gb hT hw q;generalize mO n=l at *;generalize nB m n=o at *;(go_enter func27,ntmps27);go_wp2_with fail;refine HU.out.mono ?_;rintro e w1⟨A1,c1,rfl,gh,h,I⟩;have ga:=b3.below I b3.lt;have M:=b4.below I b4.lt;have z:=hB.trans (I.mono hB.size);have gd:=I.size;rw[HS.out]at gd;have O:=hid h;clear I h b3 b4 HU;go_wp2_with fail;refine(Ez m (w.heap.size+1) A1 c1 l w1 O.out ga (by omega)).mono ?_;rintro e w2⟨rfl,D⟩;have J:=M.below D M.lt;have y:=z.trans (D.mono z.size);have ge:=hid (O.out.below D);have gg:=D.size;clear D O ga M;obtain⟨d0,d1,f0,f1⟩:=Pn J;rcases HC.out with⟨e1,e2⟩|⟨j,hj,e1,e2⟩
 ·rw[e1];have HO:Hid (o=none):=hid (by rw[HF.out];exact e2);clear e1 e2;go_wp2_with fail;refine jD (tF rfl _ (g:=w.heap.size+2) (by rfl) (by rfl) (a:=.int .i64 0) (b:=.int .i64 0) (by simpa using(J.set_ 0 (.int .i64 0)).set_ 1 (.int .i64 0))) rfl ?_;rw[HO.out];exact⟨rfl,(y.setCell (by simp;omega) _).setCell (by simp;omega) _⟩
 ·rw[e1,kL];have HO:=hid (show o=some l[j]by rw[HF.out];exact e2);(have gj:(j:Int)<(l.length:Int):=by omega);(have gk:(0:Int)<=(j:Int):=by omega);(have gi:¬ (j:Int)<0:=by omega);obtain⟨bk,off,rfl,gl,q⟩:=ge.out.el lC (by omega) rfl hj;have k0:=q j hj 0 _ rfl;have k1:=q j hj 1 _ rfl;simp only[kF]at k0;clear e1 e2 q;generalize l[j]=x at *;obtain⟨xm,xa⟩:=x;go_wp2_with fail;refine jD (tF rfl _ (g:=w.heap.size+2) (by rfl) (by rfl) (a:=.int .i64 xm) (b:=.int .i64 xa) (by simpa using(J.set_ 0 (.int .i64 xm)).set_ 1 (.int .i64 xa))) rfl ?_;rw[HO.out];exact⟨rfl,(y.setCell (by simp;omega) _).setCell (by simp;omega) _⟩
end
section
open Go.RowKit Go.Lib Go.Proofs Go.Shelf
attribute [local go_sem ↓] Go.wp_at_zero Go.wp_at_succ
attribute [local go_sem] Oper.semAt_some
theorem iZ{w:World}{base:Nat}{e:TypeId}{size n:Nat}{v:Value}{xs:List Value}(h:w.ownsRow base e size v n xs):∃A c,v=.slice A n c/\n<=c:=by
 rcases h.2 with⟨rfl,I⟩|⟨g,cap,cur,rfl,_,_,D,_⟩
 ·exact⟨none,0,by rw[I],by omega⟩
 ·exact⟨_,cap,rfl,D⟩
theorem Fg:(prog.info? 46).map (fun i=>(i.zero,i.size,i.bytes))=some (some (.agg #[.string ⟨#[]⟩,.slice none 0 0]),2,40):=by kernel_rfl
theorem L2{l:List rU}(h:∀x∈l,x.2.oneCell'=true):∀u∈rV l,u.oneCell'=true:=by
 intro u hu;obtain⟨x,I,D⟩:=List.mem_flatMap.1 hu;simp only[vb,qN,xj]at D;rcases D with rfl|rfl
 ·rfl
 ·exact h x I
theorem GG(w:World):(w.alloc (.cells #[] 46)).ownsRow w.heap.size 46 2 (.slice (some ⟨w,0,none⟩) 0 0) 0 []:=
 ⟨by simp,.inr ⟨w.heap.size,0,#[],rfl,gA _,kJ w _,gA _,by unfold maxLen;omega,by simp,by simp⟩⟩
theorem GH(A:Option Addr)(c:Nat)(l:List rU)(w:World)(I:aA w w.heap.size 2 A l.length (rV l))(y:∀x∈l,x.2.oneCell'=true)(hl:l.length<=1000):
  Calls prog 16 #[.slice A l.length c] w fun e w'=>∃v,e=.returned v/\w'.ownsRow w.heap.size 46 2 v l.length (rV l)/\(∀b,v.ownBlock=some b->b<w.heap.size+2)/\Below w w w':=by
 obtain⟨i0,hi,O,M,J⟩:=qr Fg;have ga:∀(w:World)(a:Option Addr)(n c n' c':Nat),(binOp .eql 35 (.slice a n c) (.slice none n' c')).run prog w=.ok (.bool a.isNone) w:=fun w a n c n' c'=>Lib.run_eql_slice_nil w _ _ a n c n' c' underlying35;have HR:=hid I;have H1:=hid (L2 y);cases A with
 | none=>
  have h0:l.length=0:=by
   rcases qH l.length with h|h
   ·exact h
   ·obtain⟨ad,h,_⟩:=I.2 h;cases h
  have HL:=hid (jI h0);clear I y h0;(go_enter func16,ntmps16);go_wp2_with fail;go_ret;refine⟨_,rfl,?_,nofun,gC _ _⟩;rw[HL.out];exact kP _ _ _ _
 |some ad=>
  clear I y;(go_enter func16,ntmps16);go_wp2_with (at_builtin;refine du _ rfl (.tmp 5) (.tmp 6) 35 rfl w.heap.size 46 i0 _ 2 40 underlying35 hi O M J rfl (by omega) (.slice (some ⟨w,0,none⟩) 0 0) 0 [] rfl (GG w) w.heap.size (some ad) l.length c (rV l) rfl (HR.out.alloc (gA _) _) H1.out (by unfold maxLen;omega) (by omega) (by rw[gP];omega) ?_;intro v w2 hown hg D);go_ret;have q:(Value.slice (some ⟨w,0,none⟩) 0 0).ownBlock=some w.heap.size:=rfl;rw[q]at hg D;refine⟨v,rfl,by simpa using hown,fun b hb=>?_,((gC w.heap.size w).alloc (gA _) _).grown hg (by simp) (by intro k z;injection z with z;omega)⟩;rcases D with h|h
  ·rw[h]at hb;injection hb with hb;omega
  ·rw[h,gP]at hb;injection hb with hb;omega
def ED(l l2:List rU):Prop:=∀(base:Nat)(A:Option Addr)(c:Nat)(w:World),w.ownsRow base 46 2 (.slice A l.length c) l.length (rV l) ->
 Calls prog 17 #[.slice A l.length c,.func (.func 18) #[] #[]] w fun e w'=>e=.returned (.tuple #[])/\(bK (fun b=>(Value.slice A l.length c).ownBlock=some b) w' 2 A l.length (rV l2)/\Kx (fun b=>(Value.slice A l.length c).ownBlock=some b) w w')
def Pv:ByteArray:=⟨#[46,103,111]⟩
def wT(s:ByteArray):ByteArray:=⟨(Lib.trimSuffix s.data.toList Pv.data.toList).toArray⟩
def wU(s:ByteArray):Bool:=Lib.hasSuffix s.data.toList Pv.data.toList
def eo(l:List rU)(i:Nat):ByteArray:=(l.map (·.1)).getD i ⟨#[]⟩
def rW(l:List rU)(i:Nat):Bool:=(decide (0<i)&&(eo l (i-1)).toList==(eo l i).toList)||(decide (i+1<l.length)&&(eo l (i+1)).toList==(eo l i).toList)
def rX(l:List rU)(i:Nat):Bool:=wU (eo l i)&&(!(wT (eo l i)).toList.isEmpty && !rW l i)
def eH(l:List rU):List (rU×Bool):=l.zipIdx.map fun x=>(x.1,rX l x.2)
theorem iv(l:List rU):(eH l).length=l.length:=by simp[eH]
theorem sN(l:List rU)(i:Nat)(h:i<l.length):(eH l)[i]'(by rw[iv];exact h)=(l[i],rX l i):=by simp[eH]
theorem nC(l:List rU)(i:Nat)(h:i<l.length):eo l i=l[i].1:=by simp[eo,h]
theorem L3{w:World}{lo B n:Nat}{A:Option Addr}{xs:List Value}(h:bK (fun b=>lo<=b/\b<B) w 2 A n xs):aA w B 2 A n xs:=
 ⟨h.1,fun D=>by obtain⟨b,off,e,hb,I⟩:=h.2 D;exact⟨⟨b,off,none⟩,e,hb.2,fun j u hu=>by rw[iU];exact I j u hu⟩⟩
theorem Di(a:Array Value)(w:World):(callFunc 15 a).run prog w=.ok (.enter 15 a) w:=by kernel_rfl
theorem EE(A:Option Addr)(c:Nat)(l0 l:List rU)(w:World)(gs:l0.length=l.length)(hr:aA w w.heap.size 2 A l.length (rV l0))(he:∀x∈l0,x.2.oneCell'=true)(hv:∀x∈l,∃A n c,x.2=.slice A n c)(hl:l.length<=1000)(hz:∀x∈l,x.1.size<=1000)(hS:ED l0 l)(q:Nat)(hq:aa w q 35 #[.slice A l.length c])(Cx:Nat->Prop):
  DH prog 15 #[q] (fun x:rU×Bool =>#[wQ x.1,.bool x.2]) (fun x=>x) (fun x _=>∃A n c,x.1.2=Value.slice A n c) Cx (eH l) (fun _=>False) 2 w:=by
 intro m lp J W hlp hlp2 hA hbox hCK hJ hY h0;(have gd:∀k:Nat,((Fence.wide).depth.isSome=true->1<=k):=fun k h=>by cases h);have yk:Below w w W:=⟨hA.bel.os,hA.bel.tape,hA.bel.output,hA.bel.size,fun k hk=>hA.same k hk (fun h=>h) fun h=>by omega⟩;have hQ:=hq.bl yk;have x0:=aw hQ;have HY:=hid hY;have HJ:=hid hJ;have gq:=hid hCK;rw[<-gs]at hr hq;have hC:=GH A c l0 W ((hr.below yk).more yk.size) he (by omega);rw[gs]at hC;have HV:=hid hv;have HZ:=hid hz;clear hA hbox hY hJ hCK hr hv hq hz yk;refine xk func15 rfl trivial ?_ rfl;simp only[ntmps15,jR,gI,jT,Nat.reduceAdd,Nat.reduceSub,kT,kU,qC,kY,qE,kV]
 gi_wp2
 refine⟨trivial,gd _,(callsIn_wide.2 hC).mono ?_⟩;rintro e w1⟨v,rfl,gj,gz,ga⟩;obtain⟨A1,c1,rfl,jd⟩:=iZ gj;have gy:∀b,(Value.slice A1 l.length c1).ownBlock=some b->W.heap.size<=b/\b<W.heap.size+2:=fun b h=>⟨(qA gj b h).1,gz b h⟩;have HS:=hid (hS W.heap.size A1 c1 w1 (by rw[gs];exact gj));rw[gs]at HS;have gm:=HJ.out _ _ _ h0 (Ab.below ga);have h7:=ga.size;clear hC gj x0 hQ h0 ga he
 gi_wp2
 refine⟨trivial,gd _,(callsIn_wide.2 HS.out).mono ?_⟩;rintro e w2⟨rfl,hn,gt⟩;have hu:=HJ.out _ _ _ gm ⟨gt.bel,fun k hk hnb _=>gt.same k hk fun e=>hnb (.inr (gy k e))⟩;have hw:bK (fun b=>W.heap.size<=b/\b<W.heap.size+2) w2 2 A1 l.length (rV l):=hn.mono (fun b h _=>gy b h) (by decide);have h6:=gt.bel.size;have h9:True:=trivial;clear HS gm gt hn gy gz
 gi_wp2
 gi_loopg [15] l.length (fun gg u15 wr=>∃i:Nat,i<=l.length/\l.length-i<=gg/\u15=.int .i64 (i:Int)/\W.heap.size<=wr.heap.size/\bK (fun b=>W.heap.size<=b/\b<W.heap.size+2) wr 2 A1 l.length (rV l)/\J ((eH l).take i) wr)
 case atStart=>exact⟨0,gT _,by omega,rfl,by omega,hw,hu⟩
 case round=>
  clear hw hu h9 h7 h6;obtain⟨i,hi,hg,rfl,h5,hR,hj⟩:=hrel;by_cases y:i<l.length
  ·(have ho:(i:Int)<(l.length:Int):=by omega);(have jc:(0:Int)<=(i:Int):=by omega);obtain⟨bk,off,rfl,gz,hc⟩:=(L3 hR).el Dh (by omega) rfl y;have k0:=hc i y 0 _ rfl;have k1:=hc i y 1 _ rfl;simp only[kF]at k0;have HC:=hid hc;have HR:=hid hR;have g7:=hid hj;have g6:=hid (show(eH l).take i++(l[i],rX l i)::(eH l).drop (i+1)=eH l by(have hm:i<(eH l).length:=by rw[iv];exact y);rw[<-sN l i y,<-jX hm,vZ]);have gn:=hid (show(eH l).take (i+1)=(eH l).take i++[(l[i],rX l i)]by(have hm:i<(eH l).length:=by rw[iv];exact y);rw[<-sN l i y,kC hm]);have g5:=hid (HZ.out _ (jF y));have h2:=hid (nC l i y);obtain⟨va,vn,vc,ha⟩:=HV.out _ (jF y);have gh:=hid (show rX l i=(wU (eo l i)&&(!(wT (eo l i)).toList.isEmpty && !rW l i))from rfl);have I:=hid (show rW l i=((decide (0<i)&&(eo l (i-1)).toList==(eo l i).toList)||(decide (i+1<l.length)&&(eo l (i+1)).toList==(eo l i).toList))from rfl);rw[h2.out]at gh I;generalize rX l i=M at *;generalize rW l i=TW at *;clear h2 hc hR hj;generalize l[i]=x at *;obtain⟨nm,bv⟩:=x;simp only at k0 k1 g5 gh I ha;subst ha;have gp:=hid (fun W=>show Calls prog 20 #[.string nm,.string Pv] W (fun e w'=>e=.returned (.tuple #[.string (wT nm),.bool (wU nm)])/\w'=W)from Iw nm Pv W (by have:=g5.out;omega));generalize wT nm=st at *;generalize wU nm=eg at *
   gi_wp2
   refine⟨trivial,gd _,(callsIn_wide.2 (gp.out _)).mono ?_⟩;rintro e w3⟨rfl,rfl⟩
   gi_wp2
   have g2:Below wr wr (wr.alloc (.cells #[.string nm,.slice va vn vc] 46)):=bel;have gw:=aa.new wr 46 #[.string nm,.slice va vn vc];(have jb:(wr.alloc (.cells #[.string nm,.slice va vn vc] 46)).heap.size=wr.heap.size+1:=by simp);have h8:bk<wr.heap.size:=gU wr _ k0;have gr:=hid (show ∀(k:Nat)(hk:k<l.length),(wr.alloc (.cells #[.string nm,.slice va vn vc] 46)).cell? ⟨bk,off+k*2,none⟩=some (.string l[k].1)from fun k hk=>(g2.cell (p:=⟨bk,off+k*2,none⟩) h8).trans (HC.out k hk 0 _ rfl));have f0:=(gw.cell 0).trans rfl;have f1:=(gw.cell 1).trans rfl;have h4:=hid g2;clear g2 k0 k1;generalize wr.alloc (.cells #[.string nm,.slice va vn vc] 46)=V at *
   gi_cut [8]from 71 (fun s8 wy=>s8=.bool TW/\Below V V wy)
   case first=>
    clear g6 gn gh gp g7 HR gq;obtain⟨j,gm⟩:∃j,j=i+1:=⟨_,rfl⟩;obtain⟨k,ht⟩:∃k,k=i-1:=⟨_,rfl⟩;(have q2:IntKind.i64.wrap ((i:Int)+1)=(j:Int):=by rw[show(i:Int)+1=(j:Int)by omega];exact gQ _ (by omega));(have j0:(0:Int)<=(j:Int):=by omega);(have k0:(0:Int)<=(k:Int):=by omega);rw[<-gm,<-ht]at I;(have hs:k<l.length:=by omega);(have kl:(k:Int)<(l.length:Int):=by omega);have h1:=hid (show 0<i->IntKind.i64.wrap ((i:Int)-1)=(k:Int)from fun h=>by rw[show(i:Int)-1=(k:Int)by omega];exact gQ _ (by omega));have m1:=gr.out k hs;rw[<-nC l k hs]at m1;generalize eo l k=n1 at *;clear gm ht;by_cases gl:j<l.length
    ·(have jl:(j:Int)<(l.length:Int):=by omega);have dj:decide ((j:Int)<(l.length:Int))=true:=jK jl;have g4:decide (j<l.length)=true:=jK gl;have m2:=gr.out j gl;rw[<-nC l j gl]at m2;generalize eo l j=n2 at *;rw[g4,vD]at I;clear gr;by_cases hp:0<i
     ·have q1:=h1.out hp;have g0:decide ((0:Int)<(i:Int))=true:=jK (by omega);have g1:decide (0<i)=true:=jK hp;rw[g1,vD]at I;cases ga:(n1.toList==nm.toList)with
      |true=>
       have HT:Hid (TW=true):=hid (by rw[I.out,ga,Bool.true_or])
       gi_quiet (fail)
       gi_wp2
       gi_meet
       exact⟨by rw[HT.out],az (gC _ _) _⟩
      |false=>
       have HT:=hid (show TW=(n2.toList==nm.toList)by rw[I.out,ga,Bool.false_or])
       gi_quiet (fail)
       gi_wp2
       gi_meet
       exact⟨by rw[HT.out],az (gC _ _) _⟩
     ·have g0:decide ((0:Int)<(i:Int))=false:=gV (by omega);have g1:decide (0<i)=false:=gV hp;have HT:=hid (show TW=(n2.toList==nm.toList)by rw[I.out,g1,vw,Bool.false_or]);clear hp
      gi_quiet (fail)
      gi_wp2
      gi_meet
      exact⟨by rw[HT.out],az (gC _ _) _⟩
    ·have dj:decide ((j:Int)<(l.length:Int))=false:=gV (by omega);have g4:decide (j<l.length)=false:=gV gl;rw[g4,vw,Bool.or_false]at I;clear gr gl;by_cases hp:0<i
     ·have q1:=h1.out hp;have g0:decide ((0:Int)<(i:Int))=true:=jK (by omega);have g1:decide (0<i)=true:=jK hp;rw[g1,vD]at I;cases ga:(n1.toList==nm.toList)with
      |true=>
       have HT:Hid (TW=true):=hid (by rw[I.out,ga])
       gi_quiet (fail)
       gi_wp2
       gi_meet
       exact⟨by rw[HT.out],az (gC _ _) _⟩
      |false=>
       have HT:Hid (TW=false):=hid (by rw[I.out,ga])
       gi_quiet (fail)
       gi_wp2
       gi_meet
       exact⟨by rw[HT.out],az (gC _ _) _⟩
     ·have g0:decide ((0:Int)<(i:Int))=false:=gV (by omega);have g1:decide (0<i)=false:=gV hp;have HT:Hid (TW=false):=hid (by rw[I.out,g1,vw]);clear hp
      gi_quiet (fail)
      gi_wp2
      gi_meet
      exact⟨by rw[HT.out],az (gC _ _) _⟩
   case rest=>
    obtain⟨rfl,gu⟩:=hcut;have g3:=gw.bl gu;clear f0 f1 gw gr HC I gp g5;have f0:=(g3.cell 0).trans rfl;have f1:=(g3.cell 1).trans rfl;(have je:W.heap.size<=bk:=by obtain⟨b',o',e,hb,-⟩:=HR.out.2 (by omega);injection e with e;injection e with e;rw[e];exact hb.1);have hW:Below wr wr wc:=h4.out.trans (gu.mono (by omega));have ja:=gu.size;have gv:=hid (HR.out.keep fun b _ h=>hW.block b h);have g9:=HY.out _ _ _ wc (HJ.out _ _ _ g7.out (Ab.mono (Ab.below hW (n:=wr.heap.size) (Bx:=fun _=>False)) h5 (fun _ h=>h.elim))) (by rw[vq];exact g6.out) ⟨va,vn,vc,rfl⟩ (by omega);clear gu g3 hW g7 HR h4 g6;obtain⟨fn,tmps,assign,body,hy,g8⟩:=YieldAt.anyM (m':=m-1) g9;dsimp only at hy;unfold wQ at hy;have gb:=hid g8;clear g8 g9;cases eg
    ·obtain rfl:M=false:=by rw[gh.out];rfl
     gi_wp2
     refine⟨gd _,gb.out.mono ?_⟩;rintro e w5⟨rfl,O,D⟩;have gi:=hid O;have gx:=D.bel.size;have ge:=hid (gv.out.keep fun b hb h=>D.same b h (by rintro(h|h);(exact gq.out b hb.1 hb.2 h);omega));clear O D f0 f1 hy gb
     gi_wp2
     gi_roundg (l.length-(i+1))
     case measure=>omega
     case rel=>exact⟨i+1,by omega,gA _,by go_num,by omega,ge.out,by rw[gn.out];exact gi.out⟩
    ·cases z:st.toList.isEmpty
     ·(have hh:(st.toList==[])=false:=by rw[List.isEmpty_eq_false_iff]at z;simp[z]);(have hf:(!st.toList.isEmpty)=true:=by rw[z];rfl);cases TW
      ·obtain rfl:M=true:=by rw[gh.out,z];rfl
       gi_wp2
       refine⟨gd _,gb.out.mono ?_⟩;rintro e w5⟨rfl,O,D⟩;have gi:=hid O;have gx:=D.bel.size;have ge:=hid (gv.out.keep fun b hb h=>D.same b h (by rintro(h|h);(exact gq.out b hb.1 hb.2 h);omega));clear O D f0 f1 hy gb
       gi_wp2
       gi_roundg (l.length-(i+1))
       case measure=>omega
       case rel=>exact⟨i+1,by omega,gA _,by go_num,by omega,ge.out,by rw[gn.out];exact gi.out⟩
      ·obtain rfl:M=false:=by rw[gh.out,z];rfl
       gi_wp2
       refine⟨gd _,gb.out.mono ?_⟩;rintro e w5⟨rfl,O,D⟩;have gi:=hid O;have gx:=D.bel.size;have ge:=hid (gv.out.keep fun b hb h=>D.same b h (by rintro(h|h);(exact gq.out b hb.1 hb.2 h);omega));clear O D f0 f1 hy gb
       gi_wp2
       gi_roundg (l.length-(i+1))
       case measure=>omega
       case rel=>exact⟨i+1,by omega,gA _,by go_num,by omega,ge.out,by rw[gn.out];exact gi.out⟩
     ·(have hh:(st.toList==[])=true:=by rw[List.isEmpty_iff]at z;simp[z]);(have hf:(!st.toList.isEmpty)=false:=by rw[z];rfl);obtain rfl:M=false:=by rw[gh.out,z];rfl
      gi_wp2
      refine⟨gd _,gb.out.mono ?_⟩;rintro e w5⟨rfl,O,D⟩;have gi:=hid O;have gx:=D.bel.size;have ge:=hid (gv.out.keep fun b hb h=>D.same b h (by rintro(h|h);(exact gq.out b hb.1 hb.2 h);omega));clear O D f0 f1 hy gb
      gi_wp2
      gi_roundg (l.length-(i+1))
      case measure=>omega
      case rel=>exact⟨i+1,by omega,gA _,by go_num,by omega,ge.out,by rw[gn.out];exact gi.out⟩
  ·(have ho:¬ (i:Int)<(l.length:Int):=by omega);have h3:Hid (J (eH l) wr):=hid (by rw[<-jU (l:=eH l) (i:=i) (by rw[iv];omega)];exact hj);clear hj hR
   gi_wp2
   go_end0;first|exact⟨⟨_,rfl⟩,h3.out⟩|exact⟨⟨_,rfl⟩,_,vq _,h3.out⟩
def nD(s:ByteArray):List (List ByteArray):=((mj 10 s).map ep).filter fun l =>!l.isEmpty
theorem sO(c:UInt8):∀(f:Nat)(s x:ByteArray),x∈lO c f s->x.size<=s.size
 |0,s,x,h=>by(obtain rfl:x=s:=by simpa[lO]using h);exact gA _
 | f+1,s,x,h=>by
  rw[lO]at h;split at h
  ·(obtain rfl:x=s:=by simpa using h);exact gA _
  ·rcases List.mem_cons.1 h with rfl|h
   ·rw[gW];omega
   ·have:=sO c f _ x h;rw[gW]at this;omega
abbrev PE:=Nat×List ByteArray
def NM(x:PE):Array Value:=#[.slice (some ⟨x.1,0,none⟩) x.2.length x.2.length]
theorem EH(a:Array Value)(w:World):(callFunc 28 a).run prog w=.ok (.enter 28 a) w:=by kernel_rfl
end
end Go.Proofs.YtcoiialmdncpfaaGreatDoor
