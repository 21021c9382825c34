/- Several texts, one behind the other. Conditions: none. -/
import Derived.Test.YtnhdojckpcbjeaaGreatDoorZp
import Derived.Test.YtnhdojckpcbjeaaGreatDoorZi
import Derived.Test.YtnhdojckpcbjeaaGreatDoorZj
import Derived.Test.YtnhdojckpcbjeaaGreatDoorZk
import Derived.Test.YtnhdojckpcbjeaaGreatDoorZl
import Derived.Test.YtnhdojckpcbjeaaGreatDoorZm
import Derived.Test.YtnhdojckpcbjeaaGreatDoorZn
import Derived.KernelRfl
set_option linter.unusedSimpArgs false
set_option linter.unusedVariables false
set_option maxHeartbeats 20000000
set_option maxRecDepth 100000
section
namespace Go.Proofs.YtnhdojckpcbjeaaGreatDoor
open Go Go.Gw Go.Ax
def U0 (n:Nat):List UInt8:=if n<128 then [toB (n:Int)]else if n<256 then [129,toB (n:Int)]else [130,toB (A9 (n:Int) 8),toB (n:Int)]
def putB:Nat->g_api_Item->List UInt8
 |0,_=> []
 |d+1,x=>toB x.Tag::(U0 (x.B++x.L.flatMap (putB d)).length++(x.B++x.L.flatMap (putB d)))
def Yv:Nat->g_api_Item->Prop
 |0,_=>False
 |d+1,x=> ∀y∈x.L,Yv d y
theorem AgU: ∀{d:Nat} {x:g_api_Item},mayB d x=true->Yv d x
 |0,x,h=>by cases h
 |d+1,x,h=>by
  simp only[mayB,AnP,Aoj]at h;exact λy hy=>AgU (h.2 y hy)
theorem Ye (n:Nat):1<=(U0 n).length/\(U0 n).length<=3:=by
 unfold U0;split
 ·exact⟨by simp,by simp⟩
 ·split
  ·exact⟨by simp,by simp⟩
  ·exact⟨by simp,by simp⟩
theorem putE: ∀(d n:Nat) (x:g_api_Item) (b:List UInt8),d<=n->Yv d x->b.length+(putB d x).length<=100000000000000->HP n b x=some (b++putB d x)
 |0,n,x,b,_,h,_=>h.elim
 |d+1,0,x,b,h,_,_=>by omega
 |d+1,n+1,x,b,hn,hd,hb=>by
  have eP:putB (d+1) x=toB x.Tag::(U0 (x.B++x.L.flatMap (putB d)).length++(x.B++x.L.flatMap (putB d))):=rfl;have go: ∀(l:List g_api_Item) (i:Int) (s:List UInt8),(∀y∈l,Yv d y)->s.length+(l.flatMap (putB d)).length<=100000000000000->FE (E8 (HP n)) l i s=some (s++l.flatMap (putB d)):=by
   intro l;induction l with
   |nil=>intro i s _ _; simp[FE]
   |cons y l ih=>
    intro i s h hs;rw[AoK,AnY]at hs;have e:E8 (HP n) i y s=some (s++putB d y):=by
     unfold E8;rw[putE d n y s (by omega) (h y Aoe) (by omega)];rfl
    show Ab (E8 (HP n) i y s) _=_;rw[e];show FE _ l (i+1) (s++putB d y)=_;rw[ih (i+1) (s++putB d y) (λz hz=>h z (Aok _ hz)) (by rw[AnY]; omega),AoK,An3]
  rw[eP]at hb⊢;simp only[AnR,AnY]at hb;have hc:Ia (HP n) x=some (x.B++x.L.flatMap (putB d)):=by
   unfold Ia;rw[Adc (by omega),Aa,go x.L 0 x.B hd (by omega)];rfl
  show Ni (HP n) b x=_;unfold Ni;rw[hc,Aa,Ly 1 (by simp only[AnR,Aob]; omega) (by simp only[AnR,Aob]; omega),Aa];rw[<-AnY]at hb;have hL:(x.B++x.L.flatMap (putB d)).length=(x.B++x.L.flatMap (putB d)).length:=rfl;generalize (x.B++x.L.flatMap (putB d))=c at hb hL⊢;have hl:=Ye c.length;have hm: ∀z:List UInt8,z.length<=3->app 1 (b++[toB x.Tag]) z=some (b++[toB x.Tag]++z):=λz hz=>Ly 1 (by simp only[AnY,AnR,Aob]; omega) (by simp only[AnY,AnR,Aob]; omega);have fin:app 1 (b++[toB x.Tag]++U0 c.length) c=some (b++toB x.Tag::(U0 c.length++c)):=by
   rw[Ly 1 (by simp only[AnY,AnR,Aob]; omega) (by simp only[AnY,AnR,Aob]; omega)];simp
  have mid:(bnd (decide ((c.length:Int)<128)) λx4=>
    if x4=true then
     Ab (app 1 (b++[toB x.Tag]) ([(toB (c.length:Int))]:List UInt8)) λx5=>
     some x5
    else
    bnd ((decide ((c.length:Int)<256))) λx6=>
    if x6=true then
     Ab (app 1 (b++[toB x.Tag]) ([129,(toB (c.length:Int))]:List UInt8)) λx7=>
     some x7
    else
    Ab (app 1 (b++[toB x.Tag]) ([130,(toB (A9 (c.length:Int) 8)),(toB (c.length:Int))]:List UInt8)) λx8=>
    some x8)=some (b++[toB x.Tag]++U0 c.length):=by
   rw[hm [toB (c.length:Int)] (by simp),hm [129,toB (c.length:Int)] (by simp),hm [130,toB (A9 (c.length:Int) 8),toB (c.length:Int)] (by simp)];simp only[CG,Aa,AnV];unfold U0;by_cases h1:c.length<128
   ·rw[AnT h1,AnT (by omega)]
   ·rw[AnW h1,AnW (by omega)];by_cases h2:c.length<256
    ·rw[AnT h2,AnT (by omega)]
    ·rw[AnW h2,AnW (by omega)]
  rw[mid];simp only[Aa];rw[fin];rfl
theorem Amj {x:g_api_Item}(h:Yv 8 x)(hs:(putB 8 x).length<=100000000000000):UT [] x=some (putB 8 x):=by
 have:=putE 8 AY x [] (by have:=Bw; omega) h (by simpa using hs);exact this
theorem Ahz {x:g_api_Item}(hs:(putB 8 x).length<=100000000000000):
  KD x=some (if mayB 8 x=true then(if(putB 8 x).length<=8192 then(putB 8 x,0)else([],2))else([],1)):=by
 unfold KD;rw[Amz];cases hm:mayB 8 x with
 |false=>rfl
 |true=>
  simp only[Aa,AoI,Bool.false_eq_true,if_false,if_true];rw[Amj (AgU hm) hs];simp only[Aa,AnV];by_cases h:(putB 8 x).length<=8192
  ·rw[AnW (by omega),AnT h]
  ·rw[AnT (by omega),AnW h]
theorem AcX {α:Type}(f:α->List UInt8)(k:Nat): ∀(l:List α),(∀y∈l,(f y).length<=k)->(l.flatMap f).length<=l.length*k
 | [],_=>by simp
 |y::l,h=>by
  have h1:=h y Aoe;have h2:=AcX f k l λz hz=>h z (Aok _ hz);rw[AoK,AnY,AnR,Nat.succ_mul];omega
theorem XX (d:Nat)(x:g_api_Item):(putB (d+1) x).length<=4+x.B.length+(x.L.flatMap (putB d)).length:=by
 have:=Ye (x.B++x.L.flatMap (putB d)).length;show(toB x.Tag::(U0 (x.B++x.L.flatMap (putB d)).length++(x.B++x.L.flatMap (putB d)))).length<=_;rw[AnR,AnY,AnY]at*;omega
theorem OI (d:Nat)(n:Int):(putB d (Vu n)).length<=12:=by
 cases d with
 |zero=>simp[putB]
 |succ d=>
  have h:=XX d (Vu n);have h1:(Vu n).B.length<=8:=Tz (be8 n);have h2:(Vu n).L=[]:=rfl;rw[h2]at h;simp only[List.flatMap_nil,Aob]at h;omega
theorem Ul (d:Nat){s:ByteArray}(hs:s.size<=64):(putB d (Kj s)).length<=68:=by
 cases d with
 |zero=>simp[putB]
 |succ d=>
  have h:=XX d (Kj s);have h1:(Kj s).B.length=s.size:=AN s;have h2:(Kj s).L=[]:=rfl;rw[h2]at h;simp only[List.flatMap_nil,Aob]at h;omega
theorem Ahm (d:Nat)(v:Bool):(putB d (YG v)).length<=5:=by
 cases d with
 |zero=>simp[putB]
 |succ d=>
  have h:=XX d (YG v);have h1:(YG v).B.length=1:=rfl;have h2:(YG v).L=[]:=rfl;rw[h2]at h;simp only[List.flatMap_nil,Aob]at h;omega
theorem MI (d:Nat)(l:List g_api_Item)(k:Nat)(hk: ∀e y,y∈l->(putB e y).length<=k):(putB d (XL l)).length<=4+l.length*k:=by
 cases d with
 |zero=>simp[putB]
 |succ d=>
  have h:=XX d (XL l);have h1:(XL l).B.length=0:=rfl;have h3:=AcX (putB d) k l λy hy=>hk d y hy;have h2:(XL l).L=l:=rfl;rw[h2]at h;omega
theorem Wc (d:Nat){l:List ByteArray}(h: ∀s∈l,s.size<=64)(hn:l.length<=8):(putB d (Pv l)).length<=1000:=by
 have:=MI d (l.map Kj) 68 λe y hy=>by
  obtain⟨s,hs,e2⟩:=List.mem_map.1 hy;rw[<-e2];exact Ul e (h s hs)
 rw[AoB]at this;unfold Pv;omega
theorem AiY {α:Type}{p:α->Prop}{a b:α}(ha:p a)(hb:p b): ∀y∈[a,b],p y:=by
 intro y hy;simp only[Aom,List.not_mem_nil,or_false]at hy;rcases hy with e|e<;>rw[e]<;>assumption
theorem AiA (d:Nat){c:g_api_Cert}(h:Ab0 c):(putB d (Akx c)).length<=20000:=by
 have:=MI d [Vu c.Serial,Kj c.Issuer,Kj c.Subject,Sj c.Key,Pv c.Names,Vu c.From,Vu c.Until,YG c.Ca,Vu c.Depth,Pv c.Permit] 1000 λe y hy=>by
  simp only[Aom,List.not_mem_nil,or_false]at hy;rcases hy with q|q|q|q|q|q|q|q|q|q<;>rw[q]
  ·have:=OI e c.Serial; omega
  ·have:=Ul e h.issuer; omega
  ·have:=Ul e h.subject; omega
  ·have:=OI e (w64 (c.Key.toNat:Int)); unfold Sj; omega
  ·exact Wc e h.names h.few
  ·have:=OI e c.From; omega
  ·have:=OI e c.Until; omega
  ·have:=Ahm e c.Ca; omega
  ·have:=OI e c.Depth; omega
  ·exact Wc e h.permit h.fewP
 simp only[AnR,Aob]at this;unfold Akx;omega
theorem AfJ (d:Nat)(p:g_api_Promise):(putB d (Oo p)).length<=100:=by
 have:=MI d [Vu p.Log,Vu p.At,Sj p.Leaf.1,Sj p.Leaf.2,Sj p.Sig.E,Sj p.Sig.S] 12 λe y hy=>by
  simp only[Aom,List.not_mem_nil,or_false]at hy;rcases hy with q|q|q|q|q|q<;>rw[q]<;>exact OI e _
 simp only[AnR,Aob]at this;unfold Oo;omega
theorem Aho (d:Nat){c:g_api_Cert}(h:Ab0 c):(putB d (YH c)).length<=50000:=by
 have:=MI d [Akx c,Acy c.Proms] 20000 λe=>AiY (p:=λy=>(putB e y).length<=20000) (AiA e h) (by
  have:=MI e (c.Proms.map Oo) 100 λf y hy=>by
   obtain⟨p,hp,e2⟩:=List.mem_map.1 hy;rw[<-e2];exact AfJ f p
  rw[AoB]at this;have:=h.proms;unfold Acy;omega)
 simp only[AnR,Aob]at this;unfold YH;omega
theorem V2 (d:Nat){c:g_api_Cert}(h:Ab0 c):(putB d (wholeI c)).length<=200000:=by
 have:=MI d [YH c,XL [Sj c.Sig.E,Sj c.Sig.S]] 50000 λe=>AiY (p:=λy=>(putB e y).length<=50000) (Aho e h) (by
  have:=MI e [Sj c.Sig.E,Sj c.Sig.S] 12 λf=>AiY (p:=λy=>(putB f y).length<=12) (OI f _) (OI f _);simp only[AnR,Aob]at this;omega)
 simp only[AnR,Aob]at this;unfold wholeI;omega
def checkV (c:g_api_Cert):Int:=if formB c=true then(if mayB 8 (wholeI c)=true/\(putB 8 (wholeI c)).length<=2048 then 0 else 2)else 1
theorem Ag8 (b:List UInt8)(m:Bool):(Ab (some (if m=true then(if b.length<=8192 then(b,(0:Int))else([],2))else([],1))) λx3=>if((x3.2 !=0)||(decide ((x3.1.length:Int)>2048)))=true then some (2:Int)else some 0)=some (if m=true/\b.length<=2048 then 0 else 2):=by
 cases m with
 |false=>rfl
 |true=>
  simp only[if_true,Aa,true_and];by_cases h1:b.length<=8192
  ·rw[AnT h1];by_cases h2:b.length<=2048
   ·rw[AnT h2,AnW];simp only[bne_self_eq_false,AoM,AnV];omega
   ·rw[AnW h2,AnT];simp only[bne_self_eq_false,AoM,AnV];omega
  ·rw[AnW h1];have h2: ¬b.length<=2048:=by omega
   rw[AnW h2];rfl
theorem Aha (c:g_api_Cert):Ci c=some (checkV c):=by
 unfold Ci checkV;rw[AgD];cases hf:formB c with
 |false=>rfl
 |true=>
  have hs:=(AgE hf).sized;simp only[Aa,AoI,Bool.false_eq_true,if_false,if_true];have hl:=V2 8 hs;rw[Aez hs,Aa,Ahz (by omega),Ag8]
theorem RW (n:Int):((toB n).toNat:Int)=n%256:=by
 have h:0<=n%256:=Int.emod_nonneg _ (by decide);have h2:n%256<256:=Int.emod_lt_of_pos _ (by decide);unfold toB;rw[UInt8.toNat_ofNat'];omega
theorem XK (n:Int):A9 n 8=n/256:=by
 unfold A9;rw[Int.fdiv_eq_ediv_of_nonneg _ (by decide)];rfl
def s8 (a:UInt8):Int:=if a.toNat<128 then(a.toNat:Int)else(a.toNat:Int)-256
def Zm (s:Int)(l:List UInt8):Int:=l.foldl (λs b=>s*256+(b.toNat:Int)) s
def AhE:List UInt8->Int
 | []=>0
 |a::l=>Zm (s8 a) l
theorem Zu (b:UInt8):((toB (-((Ae0 b 7).toNat:Int))).toNat:Int)=if b.toNat<128 then 0 else 255:=by
 have h:=b.toNat_lt;rw[RW];have e:(Ae0 b 7).toNat=b.toNat/128:=by
  unfold Ae0;rw[UInt8.toNat_ofNat'];show b.toNat/128%256=_;omega
 rw[e];split<;>omega
theorem ZW {a b:UInt8}{l:List UInt8}(hl:l.length<=6):Jz (a::b::l)=false↔(a.toNat:Int)=if b.toNat<128 then 0 else 255:=by
 show(decide (((a::b::l).length:Int)<=8)&&((a.toNat:Int) !=((toB (-((Ae0 b 7).toNat:Int))).toNat:Int)))=false↔_;rw[Zu,An1 (by simp only[AnR]; omega),Aof];simp only[bne_eq_false_iff_eq]
theorem AeT {a b:UInt8}{l:List UInt8}(h:(a.toNat:Int)=if b.toNat<128 then 0 else 255):AhE (a::b::l)=AhE (b::l):=by
 show Zm (s8 a*256+(b.toNat:Int)) l=Zm (s8 b) l;have hb:=b.toNat_lt;congr 1;unfold s8;by_cases h1:b.toNat<128
 ·rw[AnT h1]at h⊢;rw[AnT (by omega)];omega
 ·rw[AnW h1]at h⊢;rw[AnW (by omega)];omega
theorem shr_k (n:Int)(k:Nat)(hk:k<=64)(hp:(0:Int)<=2^k):((toB (A9 n k)).toNat:Int)=n/2^k%256:=by
 rw[RW];unfold A9;rw[Nat.min_eq_left hk,Int.fdiv_eq_ediv_of_nonneg _ hp]
def AlN (a:UInt8):UInt8:=if a.toNat<128 then 0 else 255
theorem Acl (a:UInt8):((AlN a).toNat:Int)=if a.toNat<128 then 0 else 255:=by
 unfold AlN;split<;>rfl
theorem AlB: ∀(l:List UInt8),Jz l=true->Zo l=l
 | [],h=>by cases h
 | [a],_=>rfl
 |a::b::l,h=>by
  unfold Zo;rw[AnT h]
theorem AhZ {a:UInt8}{l:List UInt8}(h:l.length<=6):Zo (AlN a::a::l)=Zo (a::l):=by
 have e:Jz (AlN a::a::l)=false:=(ZW h).2 (Acl a);show(if Jz (AlN a::a::l)=true then _ else _)=_;rw[e];rfl
theorem Ah8 (a:UInt8)(l:List UInt8):AhE (AlN a::a::l)=AhE (a::l):=AeT (Acl a)
theorem Ahr (a7 a6 a5 a4 a3 a2 a1 a0:UInt8):be8 (AhE [a7,a6,a5,a4,a3,a2,a1,a0])=[a7,a6,a5,a4,a3,a2,a1,a0]:=by
 have h6:=a6.toNat_lt; have h5:=a5.toNat_lt; have h4:=a4.toNat_lt; have h3:=a3.toNat_lt; have h2:=a2.toNat_lt; have h1:=a1.toNat_lt; have h0:=a0.toNat_lt;have h7:=a7.toNat_lt;have hs:AhE [a7,a6,a5,a4,a3,a2,a1,a0]=((((((s8 a7*256+(a6.toNat:Int))*256+(a5.toNat:Int))*256+(a4.toNat:Int))*256+(a3.toNat:Int))*256+(a2.toNat:Int))*256+(a1.toNat:Int))*256+(a0.toNat:Int):=rfl;have hS:s8 a7%256=(a7.toNat:Int):=by unfold s8; split<;>omega
 generalize s8 a7=S at hs hS;generalize AhE [a7,a6,a5,a4,a3,a2,a1,a0]=n at hs;have d1:n/256=(((((S*256+(a6.toNat:Int))*256+(a5.toNat:Int))*256+(a4.toNat:Int))*256+(a3.toNat:Int))*256+(a2.toNat:Int))*256+(a1.toNat:Int):=by omega
 have d2:n/256/256=((((S*256+(a6.toNat:Int))*256+(a5.toNat:Int))*256+(a4.toNat:Int))*256+(a3.toNat:Int))*256+(a2.toNat:Int):=by rw[d1]; omega
 have d3:n/256/256/256=(((S*256+(a6.toNat:Int))*256+(a5.toNat:Int))*256+(a4.toNat:Int))*256+(a3.toNat:Int):=by rw[d2]; omega
 have d4:n/256/256/256/256=((S*256+(a6.toNat:Int))*256+(a5.toNat:Int))*256+(a4.toNat:Int):=by rw[d3]; omega
 have d5:n/256/256/256/256/256=(S*256+(a6.toNat:Int))*256+(a5.toNat:Int):=by rw[d4]; omega
 have d6:n/256/256/256/256/256/256=S*256+(a6.toNat:Int):=by rw[d5]; omega
 have d7:n/256/256/256/256/256/256/256=S:=by rw[d6]; omega
 have q: ∀(k:Nat) (x:UInt8),k<=64->n/2^k%256=(x.toNat:Int)->toB (A9 n k)=x:=λk x hk h=>by
  apply UInt8.toNat_inj.1;have:=shr_k n k hk (by exact Int.le_of_lt (Int.pow_pos (by decide)));omega
 have p1:n/2^8=n/256:=rfl;have p2:n/2^16=n/256/256:=by
  show n/65536=_;omega
 have p3:n/2^24=n/256/256/256:=by
  show n/16777216=_;omega
 have p4:n/2^32=n/256/256/256/256:=by
  show n/4294967296=_;omega
 have p5:n/2^40=n/256/256/256/256/256:=by
  show n/1099511627776=_;omega
 have p6:n/2^48=n/256/256/256/256/256/256:=by
  show n/281474976710656=_;omega
 have p7:n/2^56=n/256/256/256/256/256/256/256:=by
  show n/72057594037927936=_;omega
 unfold be8;rw[q 56 a7 (by decide) (by rw[p7,d7]; exact hS),q 48 a6 (by decide) (by rw[p6,d6]; omega),q 40 a5 (by decide) (by rw[p5,d5]; omega),q 32 a4 (by decide) (by rw[p4,d4]; omega),q 24 a3 (by decide) (by rw[p3,d3]; omega),
  q 16 a2 (by decide) (by rw[p2,d2]; omega),q 8 a1 (by decide) (by rw[p1,d1]; omega),q 0 a0 (by decide) (by rw[Int.pow_zero,Int.ediv_one]; omega)]
theorem Ab8: ∀(k:Nat) (a:UInt8) (l:List UInt8),(a::l).length+k=8->Zo (be8 (AhE (a::l)))=Zo (a::l)
 |0,a,l,h=>by
  match l,h with
  | [a6,a5,a4,a3,a2,a1,a0],_=>rw[Ahr]
 |k+1,a,l,h=>by
  have h:l.length+1+(k+1)=8:=by simpa using h
  have ih:=Ab8 k (AlN a) (a::l) (by simp only[AnR]; omega);rw[Ah8,AhZ (by omega)]at ih;exact ih
theorem Age {l:List UInt8}(h:Jz l=true):1<=l.length/\l.length<=8:=by
 match l,h with
 | [a],_=>exact⟨by simp,by simp⟩
 |a::b::l,h=>
  have h:(decide (((a::b::l).length:Int)<=8)&&((a.toNat:Int) !=((toB (-((Ae0 b 7).toNat:Int))).toNat:Int)))=true:=h;simp only[AnP,AnV]at h;exact⟨by simp,by omega⟩
theorem Ai4 {l:List UInt8}(h:Jz l=true):Zo (be8 (AhE l))=l:=by
 have hl:=Age h;cases l with
 |nil=>cases h
 |cons a l=>
  rw[Ab8 (8-(a::l).length) a l (by omega)];exact AlB _ h
theorem AkV {s:ByteArray}{i:Nat}{b:UInt8}(h:s.data.toList[i]? =some b):s.get! i=b:=by
 have h2:s.data[i]? =some b:=by rw[<-Array.getElem?_toList]; exact h
 show s.data[i]! =b;rw[getElem!_def,h2]
theorem Ak5 {s:ByteArray}{i:Nat}{b:UInt8}(h:s.data.toList[i]? =some b)(hb:b.toNat<128):Utf8.decode s i=(b.toNat,1):=by
 unfold Utf8.decode;simp only[AoT,AkV h];rw[AnT hb]
theorem Ak6 {s:ByteArray}{i:Nat}{b:UInt8}(h:s.data.toList[i]? =some b)(hb: ¬b.toNat<128):128<=(Utf8.decode s i).1:=by
 unfold Utf8.decode;simp only[AoT,AkV h];rw[AnW hb];have he:Utf8.runeError=65533:=rfl;split
 ·split
  ·assumption
  ·simp[he]
 ·split
  ·split
   ·rename_i h1;simp only[AnP,AnV]at h1;show 128<=_;omega
   ·simp[he]
  ·split
   ·split
    ·rename_i h1;simp only[AnP,AnV]at h1;show 128<=_;omega
    ·simp[he]
   ·simp[he]
def Ei (c:UInt8):Bool:=(decide (97<=c.toNat)&&decide (c.toNat<=122))||(decide (48<=c.toNat)&&decide (c.toNat<=57))
def Tq (c:UInt8):Bool:=c.toNat==45||Ei c
def VK:List UInt8->Bool
 | []=>true
 | [c]=>Ei c
 |c::d::r=>Tq c&&VK (d::r)
def Rq:List UInt8->Bool
 | []=>false
 | [c]=>Ei c
 |c::d::r=>(Ei c||c.toNat==95)&&VK (d::r)&&decide ((c::d::r).length<=16)
theorem Aal (n:Nat)(c:UInt8)(h:n=c.toNat):Ds (n:Int)=some (Ei c):=by
 subst h;unfold Ds Ei;rw[CG];congr 1;have e: ∀k:Nat,decide ((k:Int)<=(c.toNat:Int))=decide (k<=c.toNat):=λk=>by rw[Aov]; omega
 have e2: ∀k:Nat,decide ((c.toNat:Int)<=(k:Int))=decide (c.toNat<=k):=λk=>by rw[Aov]; omega
 rw[<-e 97,<-e2 122,<-e 48,<-e2 57];rfl
theorem AgN (n:Nat)(h:128<=n):Ds (n:Int)=some false:=by
 unfold Ds;rw[CG,An7 (show¬(n:Int)<=122 from by omega),An7 (show¬(n:Int)<=57 from by omega),Aoy,Aoy];rfl
theorem AdX (n:Nat)(c:UInt8)(h:n=c.toNat):Dn (n:Int)=some (Tq c):=by
 unfold Dn Tq;rw[Aal n c h,Yn,Aa];subst h;have e:((c.toNat:Int)==45)=(c.toNat==45):=by rw[Aoq,Aou,Aou]; omega
 rw[e];cases c.toNat==45<;>simp
theorem Ajh (n:Nat)(h:128<=n):Dn (n:Int)=some false:=by
 unfold Dn;rw[AgN n h,Yn,Aa];have e:((n:Int)==45)=false:=by rw[Aon]; omega
 rw[e]; rfl
theorem AmX (c:UInt8)(h: ¬c.toNat<128):Ei c=false/\Tq c=false/\(c.toNat==95)=false:=by
 have e1:Ei c=false:=by
  unfold Ei;rw[An7 (show¬c.toNat<=122 from by omega),An7 (show¬c.toNat<=57 from by omega),Aoy,Aoy]; rfl
 have e2:(c.toNat==45)=false:=by rw[Aon]; omega
 refine⟨e1,?_,by rw[Aon]; omega⟩;unfold Tq;rw[e1,e2]; rfl
theorem Wu {s:ByteArray}{i:Nat}{c:UInt8}(hs:s.size<=16)(h:s.data.toList[i]? =some c):
  AX s i=some (if(if i+1=s.size then Ei c else if i=0 then Ei c||c.toNat==95 else Tq c)=true then .inl (i+1)else .inr (.inr false)):=by
 have hi:i<s.size:=by
  have:=(An2.1 h).1;rw[AN]at this;exact this
 have hw:w64 ((s.size:Int)-1)=(s.size:Int)-1:=HL (by omega) (by omega);unfold AX;rw[AnT hi,CG,hw];by_cases hb:c.toNat<128
 ·rw[Ak5 h hb,Aal c.toNat c rfl,AdX c.toNat c rfl,Yn,Aa,CG,CG,Yn,Aa,CG,Yn,Aa];have e95:((c.toNat:Int)==95)=(c.toNat==95):=by rw[Aoq,Aou,Aou]; omega
  by_cases hl:i+1=s.size
  ·have el:((i:Int)==(s.size:Int)-1)=true:=by rw[Aou]; omega
   rw[AnT hl,el];cases Ei c<;>rfl
  ·have el:((i:Int)==(s.size:Int)-1)=false:=by rw[Aon]; omega
   rw[AnW hl,el];by_cases h0:i=0
   ·have e0:((i:Int)==0)=true:=by rw[Aou]; omega
    rw[AnT h0,e0];show(if(true&&((true&&Ei c)||((c.toNat:Int)==95)))=true then _ else _)=_;rw[e95];cases Ei c<;>cases c.toNat==95<;>rfl
   ·have e0:((i:Int)==0)=false:=by rw[Aon]; omega
    rw[AnW h0,e0];cases Tq c<;>rfl
 ·have hd:=Ak6 h hb;generalize Utf8.decode s i=q at hd;obtain⟨n,k⟩:=q;have hn:128<=n:=hd;obtain⟨b1,b2,b3⟩:=AmX c hb;show(Ab (gu _ (Ds (n:Int))) _)=_;rw[AgN n hn,Yn,Aa,CG,Aoy,Aoy,AnW (by decide),CG];have e95:((n:Int)==95)=false:=by rw[Aon]; omega
  by_cases hl:i+1=s.size
  ·have el:((i:Int)==(s.size:Int)-1)=true:=by rw[Aou]; omega
   rw[AnT hl,el,b1];rfl
  ·have el:((i:Int)==(s.size:Int)-1)=false:=by rw[Aon]; omega
   rw[AnW hl,el,AnW (by decide)];rw[Yn,Aa,CG];show(if(((i:Int)==0)&&((((i:Int)==0)&&false)||((n:Int)==95)))=true then _ else Ab (gu _ (Dn (n:Int))) _)=_;rw[Ajh n hn,Yn,Aa,e95,Aoy,Bool.or_false,Aoy,AnW (by decide)];by_cases h0:i=0
   ·have e0:((i:Int)==0)=true:=by rw[Aou]; omega
    rw[AnT h0,e0,b1,b3];rfl
   ·have e0:((i:Int)==0)=false:=by rw[Aon]; omega
    rw[AnW h0,e0,b2];rfl
theorem Agg {s:ByteArray}{i:Nat}(h: ¬i<s.size):AX s i=some (.inr (.inl i)):=by
 unfold AX;rw[AnW h]
theorem Wt {s:ByteArray}(hs:s.size<=16): ∀(r:List UInt8) (i n:Nat),1<=i->s.data.toList.drop i=r->i<=s.size->r.length<n->∃z,iter (AX s) n i=some (if VK r=true then .inl z else .inr false)
 |r,i,0,_,_,_,h=>by omega
 | [],i,n+1,_,h,hi,_=>by
  have hl:s.data.toList.length<=i:=Aoo.1 h;rw[AN]at hl;refine⟨i,?_⟩;show Ab (AX s i) _=_;rw[Agg (by omega)];rfl
 |c::r,i,n+1,h1,h,hi,hn=>by
  have hc:s.data.toList[i]? =some c:=by
   have:(s.data.toList.drop i)[0]? =some c:=by rw[h]; rfl
   simpa using this
  have hlt:i<s.size:=by
   have:=(An2.1 hc).1;rw[AN]at this; exact this
  have hr:s.data.toList.drop (i+1)=r:=by rw[<-AoP,h]; rfl
  have hlen:r.length=s.size-(i+1):=by rw[<-hr,AoF,AN]
  obtain⟨z,ih⟩:=Wt hs r (i+1) n (by omega) hr (by omega) (by rw[AnR]at hn; omega);refine⟨z,?_⟩;show Ab (AX s i) _=_;rw[Wu hs hc,AnW (show¬i=0 from by omega)];cases r with
  |nil=>
   rw[AnT (show i+1=s.size from by rw[Aob]at hlen; omega)];show _=some (if Ei c=true then _ else _);cases Ei c with
   |false=>rfl
   |true=>rw[AnT rfl,AnT rfl]; exact ih
  |cons d r=>
   rw[AnW (show¬i+1=s.size from by rw[AnR]at hlen; omega)];show _=some (if(Tq c&&VK (d::r))=true then _ else _);cases Tq c with
   |false=>rfl
   |true=>
    rw[AnT rfl,Aof];exact ih
theorem Ai6 (s:ByteArray):Gg s=some (Rq s.data.toList):=by
 unfold Gg;cases hl:s.data.toList with
 |nil=>
  have:eqS s (⟨#[]⟩:ByteArray)=true:=by unfold eqS; rw[hl]; rfl
  rw[this,Bool.true_or,AnT rfl];rfl
 |cons c r=>
  have h0:eqS s (⟨#[]⟩:ByteArray)=false:=by unfold eqS; rw[hl]; rfl
  have hz:s.size=r.length+1:=by rw[<-AN,hl]; rfl
  rw[h0,AoM];by_cases hs:s.size<=16
  ·rw[An7 (show¬(s.size:Int)>16 from by omega),AnW (by decide)];have hc:s.data.toList[0]? =some c:=by rw[hl]; rfl
   have hd:s.data.toList.drop 1=r:=by rw[hl]; rfl
   have e': ∀n,r.length<n->∃z,iter (AX s) (n+1) 0=some (if Rq (c::r)=true then .inl z else .inr false):=by
    intro n hn;obtain⟨z,ht⟩:=Wt hs r 1 n (by decide) hd (by omega) hn;refine⟨z,?_⟩;show Ab (AX s 0) _=_;rw[Wu hs hc,AnT rfl];cases r with
    |nil=>
     rw[AnT (show 0+1=s.size from by rw[hz]; rfl)];show _=some (if Ei c=true then _ else _);cases Ei c with
     |false=>rfl
     |true=>rw[AnT rfl,AnT rfl]; exact ht
    |cons d r=>
     rw[AnW (show¬0+1=s.size from by rw[hz,AnR]; omega)];show _=some (if((Ei c||c.toNat==95)&&VK (d::r)&&decide ((c::d::r).length<=16))=true then _ else _);rw[An1 (show(c::d::r).length<=16 from by rw[AnR,<-hz]; exact hs),AoQ];cases Ei c||c.toNat==95 with
     |false=>rfl
     |true=>
      rw[AnT rfl,Aof];exact ht
   obtain⟨z,e⟩: ∃z,iter (AX s) AY 0=some (if Rq (c::r)=true then .inl z else .inr false):=e' 18446744073709551615 (by omega);rw[e,Aa];cases Rq (c::r)<;>rfl
  ·rw[An1 (show(s.size:Int)>16 from by omega),AnT rfl];cases r with
   |nil=>rw[hz]at hs; simp at hs
   |cons d r=>
    show _=some ((Ei c||c.toNat==95)&&VK (d::r)&&decide ((c::d::r).length<=16));rw[An7 (show¬(c::d::r).length<=16 from by rw[AnR,<-hz]; exact hs),Aoy]
def BU:List UInt8->List (List UInt8)
 | []=> [[]]
 |c::l=>if c=46 then []::BU l else match BU l with|h::t=>(c::h)::t| []=> [[c]]
theorem Ur (c:UInt8)(l:List UInt8):BU (c::l)=if c=46 then []::BU l else match BU l with|h::t=>(c::h)::t| []=> [[c]]:=rfl
theorem QU: ∀l:List UInt8,BU l≠[]
 | []=>by simp[BU]
 |c::l=>by
  unfold BU;split
  ·simp
  ·split<;>simp
theorem Uq: ∀(p r:List UInt8),(46:UInt8)∉p->BU (p++46::r)=p::BU r
 | [],r,_=>by simp[BU]
 |c::p,r,h=>by
  have hc:c≠46:=λe=>h (by rw[e]; exact Aoe);have ih:=Uq p r λq=>h (Aok _ q);show BU (c::(p++46::r))=_;rw[Ur,AnW hc,ih]
theorem Up: ∀(p:List UInt8),(46:UInt8)∉p->BU p=[p]
 | [],_=>rfl
 |c::p,h=>by
  have hc:c≠46:=λe=>h (by rw[e]; exact Aoe);have ih:=Up p λq=>h (Aok _ q);unfold BU;rw[AnW hc,ih]
theorem PW: ∀(l:List UInt8),(BU l).length=l.count 46+1
 | []=>rfl
 |c::l=>by
  have ih:=PW l;unfold BU;by_cases hc:c=46
  ·rw[AnT hc,hc,List.count_cons_self,AnR,ih]
  ·rw[AnW hc,List.count_cons_of_ne hc];cases h:BU l with
   |nil=>exact absurd h (QU l)
   |cons a t=>rw[h]at ih; simpa using ih
theorem ZY: ∀(l:List UInt8) (c:UInt8),(Lib.indexByte l c= -1/\c∉l)\/∃p r,l=p++c::r/\c∉p/\Lib.indexByte l c=(p.length:Int)
 | [],c=> .inl ⟨rfl,by simp⟩
 |b::l,c=>by
  unfold Lib.indexByte;cases hb:b==c with
  |true=>
   have e:b=c:=by simpa using hb
   exact .inr ⟨[],l,by rw[e]; rfl,by simp,rfl⟩
  |false=>
   have e:b≠c:=by simpa using hb
   rcases ZY l c with ⟨h1,h2⟩|⟨p,r,h1,h2,h3⟩
   ·refine .inl ⟨by rw[h1]; rfl,?_⟩;intro h;rcases Aom.1 h with q|q
    ·exact e q.symm
    ·exact h2 q
   ·refine .inr ⟨b::p,r,by rw[h1]; rfl,?_,?_⟩
    ·intro h;rcases Aom.1 h with q|q
     ·exact e q.symm
     ·exact h2 q
    ·rw[h3];have:((p.length:Int)== -1)=false:=by rw[Aon]; omega
     rw[AnW (by decide),AnW (by rw[this]; decide),AnR];omega
theorem Np (s:ByteArray)(a b:Nat):(s.extract a b).data.toList=(s.data.toList.take b).drop a:=by
 rw[ByteArray.data_extract,Array.toList_extract,List.extract_eq_take_drop,List.take_drop];by_cases h:a<=b
 ·rw[Nat.add_sub_cancel' h]
 ·rw[Nat.sub_eq_zero_of_le (by omega),AoT];rw[Aog (by rw[Aod]; omega),Aog (by rw[Aod]; omega)]
def YL (l:List UInt8):Bool:=(BU l).all Rq
theorem b5_eq (b:ByteArray)(s:Unit×Nat):Bn b s=some ((),if Rq b.data.toList=true then 0 else 1):=by
 unfold Bn;rw[Ai6,Aa];cases Rq b.data.toList<;>rfl
def cbk:(Unit×Nat)->ByteArray->Option (Bool×(Unit×Nat)):=λ(s:(Unit)×Nat) (b0:ByteArray)=>if s.2=0 then Ab (Bn b0 s) λy=>some (y.2==0,y)else none
theorem Alf (b:ByteArray):cbk ((),0) b=some (Rq b.data.toList,((),if Rq b.data.toList=true then 0 else 1)):=by
 unfold cbk;rw[AnT rfl,b5_eq,Aa];cases Rq b.data.toList<;>rfl
theorem Agt (s:ByteArray)(h:s.size<=1000):Cq s (⟨#[46]⟩:ByteArray)=some (AkK s 46):=by
 obtain⟨x,hx,h1,h2⟩:=Z5 s;unfold Cq Bv BA;rw[CG];cases he:eqS (⟨#[46]⟩:ByteArray) s with
 |true=>
  have e:=(Jx.1 he);subst e;rfl
 |false=>rfl
theorem We: ∀(m:Nat) (s:ByteArray) (n:Nat),s.size<=m->m<n->m<=100->
  ∃z:ByteArray,iter (AK cbk (⟨#[46]⟩:ByteArray) 0) n (s,((),0))=some (if(BU s.data.toList).dropLast.all Rq=true then .inl (z,((),0))else .inr ((⟨#[46]⟩:ByteArray),z,0,((),1)))/\
   ((BU s.data.toList).dropLast.all Rq=true->some z.data.toList=(BU s.data.toList).getLast?)
 |m,s,0,_,h,_=>by omega
 |m,s,n+1,hs,hn,hm=>by
  have hx:Cq s (⟨#[46]⟩:ByteArray)=some (AkK s 46):=Agt s (by omega);show∃z,Ab (AK cbk (⟨#[46]⟩:ByteArray) 0 (s,((),0))) _=_/\_;rcases ZY s.data.toList 46 with ⟨h1,h2⟩|⟨p,r,h1,h2,h3⟩
  ·have e:AK cbk (⟨#[46]⟩:ByteArray) 0 (s,((),0))=some (.inr (.inl (s,((),0)))):=by
    unfold AK;show Ab (Cq s (⟨#[46]⟩:ByteArray)) _=_;rw[hx,Aa,show AkK s 46= -1 from h1];rfl
   rw[e,Up _ h2];exact⟨s,rfl,λ_=>rfl⟩
  ·have hz:s.size=p.length+1+r.length:=by rw[<-AN,h1,AnY,AnR]; omega
   have e1:Ts s 0 (w64 ((p.length:Int)+0))=some (s.extract 0 p.length):=by
    rw[Int.add_zero,HL (by omega) (by omega),Ig (by omega) (by omega) (by omega)];rfl
   have e2:Ts s (w64 ((p.length:Int)+((⟨#[46]⟩:ByteArray).size:Int))) (s.size:Int)=some (s.extract (p.length+1) s.size):=by
    have:((⟨#[46]⟩:ByteArray).size:Int)=1:=rfl;rw[this,HL (by omega) (by omega),Ig (by omega) (by omega) (by omega)];rfl
   have l1:(s.extract 0 p.length).data.toList=p:=by
    rw[Np,h1,List.take_left]; rfl
   have l2:(s.extract (p.length+1) s.size).data.toList=r:=by
    rw[Np,<-AN,List.take_length,h1];rw[<-AoP,List.drop_left]; rfl
   have e:AK cbk (⟨#[46]⟩:ByteArray) 0 (s,((),0))=some (if Rq p=true then .inl (s.extract (p.length+1) s.size,((),0))else .inr (.inr ((⟨#[46]⟩:ByteArray),s,0,((),1)))):=by
    unfold AK;show Ab (Cq s (⟨#[46]⟩:ByteArray)) _=_;rw[hx,Aa,show AkK s 46=(p.length:Int)from h3,AnW (by rw[AnV]; omega),e1,Aa,Alf,Aa,l1];cases hlab:Rq p with
    |false=>rfl
    |true=>
     rw[AnW (by simp)];dsimp only;rw[e2,Aa];rfl
   rw[e,h1,Uq p r h2];have hsz:(s.extract (p.length+1) s.size).size=r.length:=by rw[<-AN,l2]
   obtain⟨z,ih1,ih2⟩:=We (m-1) (s.extract (p.length+1) s.size) n (by omega) (by omega) (by omega);rw[l2]at ih1 ih2;have hd:(p::BU r).dropLast=p::(BU r).dropLast:=by
    cases hq:BU r with
    |nil=>exact absurd hq (QU r)
    |cons a t=>rfl
   have hg:(p::BU r).getLast? =(BU r).getLast? :=by
    cases hq:BU r with
    |nil=>exact absurd hq (QU r)
    |cons a t=>rfl
   rw[hd,hg,AoE];cases Rq p with
   |false=>exact⟨s,rfl,λh=>by cases h⟩
   |true=>exact⟨z,ih1,ih2⟩
theorem YK {α:Type}(f:α->Bool): ∀(l:List α) (x:α),l.getLast? =some x->l.all f=(l.dropLast.all f&&f x)
 | [],x,h=>by cases h
 | [a],x,h=>by cases h; simp
 |a::b::l,x,h=>by
  have ih:=YK f (b::l) x (by simpa using h);show(f a&&(b::l).all f)=((f a&&(b::l).dropLast.all f)&&f x);rw[ih,Bool.and_assoc]
def isB (l:List UInt8)(n k:Nat):Bool:=decide (l.length<=k)&&decide ((BU l).length<=n)&&YL l
theorem Abw (s:ByteArray)(n k:Nat)(hk:k<=100):Cg s (n:Int) (k:Int)=some (isB s.data.toList n k):=by
 rw[X6]; unfold isB;have hz:=AN s;by_cases h1:s.size<=k
 ·rw[An7 (show¬(s.size:Int)>k from by omega),AnW (by decide),An1 (show s.data.toList.length<=k from by omega)];have ec:FM s (⟨#[46]⟩:ByteArray)=some ((s.data.toList.count 46:Nat):Int):=rfl;rw[ec,Aa,Aa,PW];by_cases h2:s.data.toList.count 46+1<=n
  ·rw[An7 (show¬((s.data.toList.count 46:Nat):Int)>=(n:Int)from by omega),AnW (by decide),An1 h2];obtain⟨z,e1,e2⟩:=We 100 s AY (by omega) (by have:=Bw; omega) (by decide);have es:Ba cbk (⟨#[46]⟩:ByteArray) s 0 ((),0)=some ((⟨#[46]⟩:ByteArray),z,0,((),if YL s.data.toList=true then 0 else 1)):=by
    unfold Ba;rw[AnW (by decide),e1,Aa];unfold YL;cases hd:(BU s.data.toList).dropLast.all Rq with
    |true=>
     have hlast:=(e2 hd).symm;rw[YK Rq _ _ hlast,hd,AnT rfl];show Ab (cbk ((),0) z) _=_;rw[Alf,Aa,Aof]
    |false=>
     have:(BU s.data.toList).all Rq=false:=by
      cases hl:(BU s.data.toList).getLast? with
      |none=>exact absurd (List.getLast?_eq_none_iff.1 hl) (QU _)
      |some x=>rw[YK Rq _ x hl,hd]; rfl
     rw[this];rfl
   show Ab (Ba cbk (⟨#[46]⟩:ByteArray) s 0 ((),0)) _=_;rw[es,Aa];cases YL s.data.toList<;>rfl
  ·rw[An1 (show((s.data.toList.count 46:Nat):Int)>=(n:Int)from by omega),AnT rfl,An7 h2];rfl
 ·rw[An1 (show(s.size:Int)>k from by omega),AnT rfl,Aa,AnT rfl,An7 (show¬s.data.toList.length<=k from by omega)];rfl
theorem AiO (s:ByteArray):nameV s=if isB s.data.toList 8 64=true then 0 else 110:=by
 have e:=X7 s;have e2:Ev s=some (isB s.data.toList 8 64):=by
  unfold Ev;rw[show Cg s 8 64=some (isB s.data.toList 8 64)from Abw s 8 64 (by decide)];rfl
 unfold Dp at e;rw[e2,Aa]at e;cases h:isB s.data.toList 8 64 with
 |true=>rw[h]at e; exact(AnO e).symm
 |false=>rw[h]at e; exact(AnO e).symm
theorem AaI (c:UInt8):EC c=some (Ei c):=by
 unfold EC Ei;rw[CG];congr 1;have e: ∀k:Nat,decide ((c.toNat:Int)>=(k:Int))=decide (k<=c.toNat):=λk=>by rw[Aov]; omega
 have e2: ∀k:Nat,decide ((c.toNat:Int)<=(k:Int))=decide (c.toNat<=k):=λk=>by rw[Aov]; omega
 rw[<-e 97,<-e2 122,<-e 48,<-e2 57];rfl
theorem Ace: ∀(r:List UInt8) (x:UInt8),r.getLast? =some x->VK r=(Ei x&&r.all Tq)
 | [],x,h=>by cases h
 | [a],x,h=>by
  cases h;show Ei a=(Ei a&&(Tq a&&true));unfold Tq;cases Ei a<;>simp
 |a::b::r,x,h=>by
  have ih:=Ace (b::r) x (by simpa using h);show(Tq a&&VK (b::r))=(Ei x&&(Tq a&&(b::r).all Tq));rw[ih];cases Tq a<;>cases Ei x<;>rfl
theorem C4 {α:Type}{l:List α}{i:Nat}{x:α}(h:l[i]? =some x):idx l (i:Int)=some x:=by
 unfold idx;rw[AnT (by omega)];exact h
theorem Afo {s:ByteArray}{i:Nat}{c:UInt8}(h:s.data.toList[i]? =some c)(hs:s.size<=100000):B4 s (i:Int)=some (if Tq c=true then .inl ((i+1:Nat):Int)else .inr (.inr false)):=by
 have hi:i<s.size:=by
  have:=(An2.1 h).1;rw[AN]at this;exact this
 unfold B4;rw[An1 (show(i:Int)<(s.size:Int)from by omega),AnT rfl,C4 h,Aa,AaI,Aa];have hw:w64 ((i:Int)+1)=((i+1:Nat):Int):=by rw[HL (by omega) (by omega)]; omega
 have e45:((c.toNat:Int) !=45)= !(c.toNat==45):=by
  show(!((c.toNat:Int)==45))=_;have:((c.toNat:Int)==45)=(c.toNat==45):=by rw[Aoq,Aou,Aou]; omega
  rw[this]
 unfold Tq;cases he:Ei c with
 |true=>
  rw[show gu (!true) (some c)=some default from rfl,Aa,hw,Bool.or_true];rfl
 |false=>
  rw[show gu (!false) (some c)=some c from rfl,Aa,e45,hw,Bool.or_false];cases c.toNat==45<;>rfl
theorem ZB {s:ByteArray}(hs:s.size<=100000): ∀(r:List UInt8) (i n:Nat),s.data.toList.drop i=r->r.length<n->iter (B4 s) n (i:Int)=some (if r.all Tq=true then .inl ()else .inr false)
 |r,i,0,_,h=>by omega
 | [],i,n+1,h,_=>by
  have hl:s.data.toList.length<=i:=Aoo.1 h;rw[AN]at hl;have e:B4 s (i:Int)=some (.inr (.inl ())):=by
   unfold B4;rw[An7 (show¬(i:Int)<(s.size:Int)from by omega)];rfl
  show Ab (B4 s (i:Int)) _=_;rw[e];rfl
 |c::r,i,n+1,h,hn=>by
  have hc:s.data.toList[i]? =some c:=by
   have:(s.data.toList.drop i)[0]? =some c:=by rw[h]; rfl
   simpa using this
  have hr:s.data.toList.drop (i+1)=r:=by rw[<-AoP,h]; rfl
  have ih:=ZB hs r (i+1) n hr (by rw[AnR]at hn; omega);show Ab (B4 s (i:Int)) _=_;rw[Afo hc hs,AoE];cases Tq c with
  |false=>rfl
  |true=>rw[AnT rfl,Aof]; exact ih
theorem Afn (s:ByteArray)(hs:s.size<=100000):JN s=some (Rq s.data.toList):=by
 have hz:=AN s;unfold JN;by_cases h1:s.size<1\/s.size>16
 ·have eb:(decide ((s.size:Int)<1)||decide ((s.size:Int)>16))=true:=by
   rw[Aox,AnV,AnV]; omega
  rw[eb];show some false=_;cases hl:s.data.toList with
  |nil=>rfl
  |cons c r=>
   rw[hl,AnR]at hz;cases r with
   |nil=>rw[Aob]at hz; omega
   |cons d r=>
    show some false=some ((Ei c||c.toNat==95)&&VK (d::r)&&decide ((c::d::r).length<=16));rw[An7 (show¬(c::d::r).length<=16 from by rw[AnR]; omega),Aoy]
 ·have eb:(decide ((s.size:Int)<1)||decide ((s.size:Int)>16))=false:=by
   rw[Bool.or_eq_false_iff,decide_eq_false_iff_not,decide_eq_false_iff_not]; omega
  cases hl:s.data.toList with
  |nil=>rw[hl,Aob]at hz; omega
  |cons c r=>
   obtain⟨x,hx⟩: ∃x,(c::r).getLast? =some x:=⟨_,List.getLast?_cons⟩;have hx2:(c::r)[s.size-1]? =some x:=by
    rw[<-hx,List.getLast?_eq_getElem?,<-hl,hz]
   have hw:w64 ((s.size:Int)-1)=((s.size-1:Nat):Int):=by rw[HL (by omega) (by omega)]; omega
   have ex:idx (c::r) (w64 ((s.size:Int)-1))=some x:=by rw[hw]; exact C4 hx2
   have hloop:=ZB hs r 1 AY (by rw[hl]; rfl) (by
    have:=Bw;rw[hl,AnR]at hz;omega)
   have hloop:iter (B4 s) AY 1=some (if r.all Tq=true then .inl ()else .inr false):=hloop;rw[eb,ex,show idx (c::r) 0=some c from rfl,hloop];rw[show gu (!false) (some x)=some x from rfl,Aa,show gu (!false) (EC x)=EC x from rfl,AaI,Aa];have e95:((c.toNat:Int) !=95)= !(c.toNat==95):=by
    show(!((c.toNat:Int)==95))=_;have:((c.toNat:Int)==95)=(c.toNat==95):=by rw[Aoq,Aou,Aou]; omega
    rw[this]
   have hlab:Rq (c::r)=(Ei x&&(Ei c||c.toNat==95)&&r.all Tq):=by
    cases r with
    |nil=>
     have hxc:x=c:=by simpa using hx.symm
     rw[hxc];show Ei c=_;cases Ei c<;>simp
    |cons d r=>
     have ht:=Ace (d::r) x (by simpa using hx);show((Ei c||c.toNat==95)&&VK (d::r)&&decide ((c::d::r).length<=16))=_;rw[hl,AnR]at hz;rw[ht,An1 (show(c::d::r).length<=16 from by rw[AnR]; omega),AoQ];cases Ei c||c.toNat==95<;>cases Ei x<;>rfl
   rw[hlab];cases Ei x with
   |false=>rfl
   |true=>
    rw[show gu (!((false||(!true)))) (some c)=some c from rfl,Aa,AaI,show gu (!((false||(!true)))) (some (Ei c))=some (Ei c)from rfl,Aa];cases Ei c with
    |true=>
     show Ab (gu false (some c)) _=_;rw[Aaa,Aa];cases r.all Tq<;>rfl
    |false=>
     show Ab (some c) (λx5=>if((false|| !true)||(!false&&((x5.toNat:Int) !=95)))=true then some false else Ab (some (if r.all Tq=true then(.inl ():Unit⊕Bool)else .inr false)) _)=_;rw[Aa,e95];cases c.toNat==95 with
     |false=>rfl
     |true=>cases r.all Tq<;>rfl
def toL (s:ByteArray):List UInt8:=s.data.toList
theorem Ahv {α:Type}(b:Nat){xs ys:List α}(h:(xs.length+ys.length)*b<=140737488355328)(h1:xs.length+ys.length<=140737488355328):app b xs ys=some (xs++ys):=by unfold app; rw[AnT ⟨h,h1⟩]
theorem AjP {α:Type}(l:List α){f i:Nat}(h:f<=i):l.drop f=(l.take i).drop f++l.drop i:=by
 have h0:l=l.take i++l.drop i:=(List.take_append_drop i l).symm;by_cases hi:i<=l.length
 ·conv=>lhs; rw[h0]
  rw[List.drop_append_of_le_length (by rw[Aod]; omega)]
 ·rw[Aow (by omega),Aog (show l.length<=i by omega),AoC]
theorem AeP {α:Type}{l:List α}{i f:Nat}{c:α}(h:l[i]? =some c)(hf:f<=i):(l.take (i+1)).drop f=(l.take i).drop f++[c]:=by
 rw[List.take_add_one,h];have hl:i<l.length:=(An2.1 h).1;rw[List.drop_append_of_le_length (by rw[Aod]; omega)];rfl
theorem Yx {s:ByteArray}(hs:s.size<=100000): ∀(r:List UInt8) (i f n:Nat) (out:List ByteArray),(toL s).drop i=r->r.length<n->f<=i->i<=s.size->out.length<=i->(46:UInt8)∉((toL s).take i).drop f->
  ∃(o:List ByteArray) (g:Nat),iter (BH s) n (out,(f:Int),(i:Int))=some (o,(g:Int))/\g<=s.size/\o.length<=s.size/\o.map toL++[(toL s).drop g]=out.map toL++BU ((toL s).drop f)
 |r,i,f,0,_,_,h,_,_,_,_=>by omega
 | [],i,f,n+1,out,h,_,hf,hi,ho,hp=>by
  have hl:(toL s).length<=i:=Aoo.1 h;have hz:(toL s).length=s.size:=AN s;have e:BH s (out,(f:Int),(i:Int))=some (.inr (out,(f:Int))):=by
   unfold BH;show(if decide ((i:Int)<(s.size:Int))=true then _ else _)=_;rw[An7 (show¬(i:Int)<(s.size:Int)from by omega)];rfl
  refine⟨out,f,?_,by omega,by omega,?_⟩
  ·show Ab (BH s (out,(f:Int),(i:Int))) _=_;rw[e];rfl
  ·rw[Aow (by omega)]at hp;rw[Up _ hp]
 |c::r,i,f,n+1,out,h,hn,hf,hi,ho,hp=>by
  have hc:(toL s)[i]? =some c:=by
   have:((toL s).drop i)[0]? =some c:=by rw[h]; rfl
   simpa using this
  have hz:(toL s).length=s.size:=AN s;have hlt:i<s.size:=by
   have:=(An2.1 hc).1;omega
  have hr:(toL s).drop (i+1)=r:=by rw[<-AoP,h]; rfl
  have hw:w64 ((i:Int)+1)=((i+1:Nat):Int):=by rw[HL (by omega) (by omega)]; omega
  have hi2:idx s.data.toList (i:Int)=some c:=C4 hc;by_cases h46:c=46
  ·have e46:((c.toNat:Int)==46)=true:=by rw[h46]; rfl
   have ep:Ts s (f:Int) (i:Int)=some (s.extract f i):=by
    rw[Ig (by omega) (by omega) (by omega)]; rfl
   have e:BH s (out,(f:Int),(i:Int))=some (.inl (out++[s.extract f i],((i+1:Nat):Int),((i+1:Nat):Int))):=by
    unfold BH;show(if decide ((i:Int)<(s.size:Int))=true then _ else _)=_;rw[An1 (show(i:Int)<(s.size:Int)from by omega),AnT rfl];show Ab (Ab (idx s.data.toList (i:Int)) _) _=_;rw[hi2,Aa,e46,AnT rfl];show Ab (Ab (Ts s (f:Int) (i:Int)) _) _=_;rw[ep,Aa];show Ab (Ab (app 16 out [s.extract f i]) _) _=_;rw[Ahv 16 (by show(out.length+1)*16<=_; omega) (by show out.length+1<=_; omega),Aa,Aa,hw]
   obtain⟨o,g,q1,q2,q3,q4⟩:=Yx hs r (i+1) (i+1) n (out++[s.extract f i]) hr (by rw[AnR]at hn; omega) (AnX _) (by omega) (by rw[AnY]; show out.length+1<=_; omega) (by
    rw[Aog (by rw[Aod]; omega)]; simp)
   refine⟨o,g,?_,q2,q3,?_⟩
   ·show Ab (BH s (out,(f:Int),(i:Int))) _=_;rw[e];exact q1
   ·rw[q4,AjP (toL s) hf,h,h46,Uq _ _ hp,hr,AoH,An3];show _++([toL (s.extract f i)]++_)=_;rw[show toL (s.extract f i)=((toL s).take i).drop f from Np s f i];rfl
  ·have e46:((c.toNat:Int)==46)=false:=by
    rw[Aon];intro q;exact h46 (UInt8.toNat_inj.1 (by show c.toNat=46; omega))
   have e:BH s (out,(f:Int),(i:Int))=some (.inl (out,(f:Int),((i+1:Nat):Int))):=by
    unfold BH;show(if decide ((i:Int)<(s.size:Int))=true then _ else _)=_;rw[An1 (show(i:Int)<(s.size:Int)from by omega),AnT rfl];show Ab (Ab (idx s.data.toList (i:Int)) _) _=_;rw[hi2,Aa,e46,AnW (by decide),Aa,hw]
   obtain⟨o,g,q1,q2,q3,q4⟩:=Yx hs r (i+1) f n out hr (by rw[AnR]at hn; omega) (by omega) (by omega) (by omega) (by
    rw[AeP hc hf];intro q;rcases Aol.1 q with q|q
    ·exact hp q
    ·exact h46 (List.mem_singleton.1 q).symm)
   refine⟨o,g,?_,q2,q3,q4⟩;show Ab (BH s (out,(f:Int),(i:Int))) _=_;rw[e];exact q1
theorem Ac6 {s:ByteArray}(hs:s.size<=100000): ∃l,ID s=some l/\l.map toL=BU (toL s):=by
 have hz:(toL s).length=s.size:=AN s;obtain⟨o,g,h1,h2,h3,h4⟩:=Yx hs (toL s) 0 0 AY [] rfl (by have:=Bw; omega) (AnX _) (Nat.zero_le _) (Nat.zero_le _) (by simp);have h1:iter (BH s) AY ([],0,0)=some (o,(g:Int)):=h1;unfold ID;rw[h1,Aa,Aa,Ig (by omega) (by show(g:Int)<=_; omega) (by omega),Aa,Ahv 16 (by show(o.length+1)*16<=_; omega) (by show o.length+1<=_; omega),Aa];refine⟨_,rfl,?_⟩;rw[AoH];show o.map toL++[toL (s.extract g s.size)]=_;rw[show toL (s.extract g s.size)=(toL s).drop g from by rw[show toL (s.extract g s.size)=((toL s).take s.size).drop g from Np s g s.size,<-hz,List.take_length],h4];rfl
theorem ZQ: ∀(r p:List ByteArray) (n:Nat),r.length<n->p.length+r.length<=10000->(∀x∈r,x.size<=100000)->iter (BZ (p++r)) n (p.length:Int)=some (if r.all (λx=>Rq (toL x))=true then .inl ()else .inr false)
 |r,p,0,h,_,_=>by omega
 | [],p,n+1,_,_,_=>by
  have e:BZ (p++[]) (p.length:Int)=some (.inr (.inl ())):=by
   unfold BZ;rw[An7 (by rw[AoC]; omega)];rfl
  show Ab (BZ (p++[]) (p.length:Int)) _=_;rw[e]; rfl
 |x::r,p,n+1,h,hp,hx=>by
  rw[AnR]at h hp;have ih:=ZQ r (p++[x]) n (by omega) (by rw[AnY]; show p.length+1+_<=_; omega) λy hy=>hx y (Aok _ hy);have ei:idx (p++x::r) (p.length:Int)=some x:=C4 (by simp);have e:BZ (p++x::r) (p.length:Int)=some (if Rq (toL x)=true then .inl ((p.length+1:Nat):Int)else .inr (.inr false)):=by
   unfold BZ;rw[An1 (show(p.length:Int)<((p++x::r).length:Int)from by rw[AnY,AnR]; omega),AnT rfl,ei,Aa,Afn x (hx x Aoe),Aa];have hw:w64 ((p.length:Int)+1)=((p.length+1:Nat):Int):=by rw[HL (by omega) (by omega)]; omega
   rw[hw];show(if(!Rq (toL x))=true then _ else _)=_;cases Rq (toL x)<;>rfl
  show Ab (BZ (p++x::r) (p.length:Int)) _=_;rw[e,AoE];cases Rq (toL x)with
  |false=>rfl
  |true=>
   rw[AnT rfl,Aof];show iter (BZ (p++x::r)) n ((p.length+1:Nat):Int)=_;rw[<-ih];simp
theorem OZ: ∀(l x:List UInt8),x∈BU l->x.length<=l.length
 | [],x,h=>by simp[BU]at h; rw[h]; simp
 |c::l,x,h=>by
  rw[Ur]at h;by_cases hc:c=46
  ·rw[AnT hc]at h;rcases Aom.1 h with q|q
   ·rw[q]; simp
   ·have:=OZ l x q; rw[AnR]; omega
  ·rw[AnW hc]at h;cases hs:BU l with
   |nil=>exact absurd hs (QU l)
   |cons a t=>
    rw[hs]at h;rcases Aom.1 h with q|q
    ·have:=OZ l a (by rw[hs]; exact Aoe);rw[q,AnR,AnR]; omega
    ·have:=OZ l x (by rw[hs]; exact Aok _ q);rw[AnR]; omega
theorem Vo {s:ByteArray}(hs:s.size<=100000):FQ s=some (isB (toL s) 8 64):=by
 have hz:(toL s).length=s.size:=AN s;unfold FQ isB;by_cases h1:s.size<=64
 ·rw[An7 (show¬(s.size:Int)>64 from by omega),AnW (by decide),An1 (show(toL s).length<=64 from by omega)];obtain⟨l,e,hl⟩:=Ac6 hs;have hsz: ∀x∈l,x.size<=100000:=λx hx=>by
   have h2:=OZ (toL s) (toL x) (by rw[<-hl]; exact List.mem_map_of_mem hx);have h3:(toL x).length=x.size:=AN x;omega
  have hlen:l.length=(BU (toL s)).length:=by rw[<-hl,AoB]
  have hcnt:=PW (toL s);have hc2:(toL s).count 46<=(toL s).length:=List.count_le_length;have hloop:=ZQ l [] AY (by have:=Bw; omega) (by simp only[Aob]; omega) hsz;have hloop:iter (BZ l) AY 0=some (if l.all (λx=>Rq (toL x))=true then .inl ()else .inr false):=hloop;rw[e,Aa,hloop];have ha:l.all (λx=>Rq (toL x))=YL (toL s):=by
   unfold YL;rw[<-hl,List.all_map];rfl
  rw[ha];have hd:decide ((l.length:Int)<=8)=decide ((BU (toL s)).length<=8):=by rw[Aov,hlen]; omega
  cases YL (toL s)with
  |false=>rw[Aoy]; rfl
  |true=>
   show some (decide ((l.length:Int)<=8))=_;rw[hd,AoQ,Aof]
 ·rw[An1 (show(s.size:Int)>64 from by omega),AnT rfl,An7 (show¬(toL s).length<=64 from by omega)];rfl
def AdB:List UInt8->Bool
 |a::b::r=>a==42&&b==46&&isB r 7 62
 |_=>false
theorem AmL (n k:Nat):isB [] n k=false:=by
 unfold isB YL;simp[BU,Rq]
theorem pat_eq (s:ByteArray):CC s=some (if(isB (toL s) 8 64||AdB (toL s))=true then 0 else 110):=by
 have hz:(toL s).length=s.size:=AN s;unfold CC Eu;have e1:Ev s=some (isB (toL s) 8 64):=by
  unfold Ev;rw[show Cg s 8 64=some (isB (toL s) 8 64)from Abw s 8 64 (by decide)];rfl
 rw[e1,Aa];cases h1:isB (toL s) 8 64 with
 |true=>rfl
 |false=>
  rw[AnW (by decide),AoM];unfold B9 A6 A5;have e2:(((⟨#[42,46]⟩:ByteArray).size:Nat):Int)=2:=rfl;rw[e2];match hl:toL s with
  | []=>
   rw[hl,Aob]at hz;rw[An7 (show¬(s.size:Int)>=2 from by omega)];rfl
  | [a]=>
   rw[hl,AnR,Aob]at hz;rw[An7 (show¬(s.size:Int)>=2 from by omega)];rfl
  |a::b::r=>
   rw[hl,AnR,AnR]at hz;have ec:Ts s 0 2=some (s.extract 0 2):=Ig (by omega) (by omega) (by omega);have el:(s.extract 0 2).data.toList=[a,b]:=by
    rw[Np];show((toL s).take 2).drop 0=_;rw[hl]; rfl
   have ee:eqS (s.extract 0 2) (⟨#[42,46]⟩:ByteArray)=(a==42&&b==46):=by
    unfold eqS;rw[el,Aoq];simp
   rw[An1 (show(s.size:Int)>=2 from by omega),PD,ec,Aa,CG,ee,Aa];show _=some (if(a==42&&b==46&&isB r 7 62)=true then 0 else 110);cases a==42&&b==46 with
   |false=>rfl
   |true=>
    have ec2:Ts s 2 (s.size:Int)=some (s.extract 2 s.size):=by
     rw[Ig (by omega) (by omega) (by omega)]; rfl
    have el2:(s.extract 2 s.size).data.toList=r:=by
     rw[Np];show((toL s).take s.size).drop 2=_;rw[Aow (by rw[hl,AnR,AnR]; omega),hl]; rfl
    rw[show(true&&true)=true from rfl,AnW (by decide),ec2,Aa,Aa,Aa];have en:=Abw (s.extract 2 s.size) 7 62 (by decide);rw[el2]at en;have en:Cg (s.extract 2 s.size) 7 62=some (isB r 7 62):=en;show Ab (Ab (gu true (Cg (s.extract 2 s.size) 7 62)) _) _=_;rw[PD,en,Aa,Aa];show Ab (FU (true&&isB r 7 62)) _=_;cases isB r 7 62<;>rfl
theorem Amp (s:ByteArray):patV s=if(isB (toL s) 8 64||AdB (toL s))=true then 0 else 110:=by
 have e:=Abr s;rw[pat_eq s]at e;exact(AnO e).symm
theorem AnN {s:ByteArray}(hs:s.size<=100000): ∃t,Ld s=some (t,AdB (toL s)):=by
 have hz:(toL s).length=s.size:=AN s;unfold Ld;by_cases h1:s.size<3\/s.size>64
 ·have eb:(decide ((s.size:Int)<3)||decide ((s.size:Int)>64))=true:=by
   rw[Aox,AnV,AnV]; omega
  rw[eb];have e:AdB (toL s)=false:=by
   match hl:toL s with
   | []=>rfl
   | [a]=>rfl
   | [a,b]=>show(a==42&&b==46&&isB [] 7 62)=false; rw[AmL,Aoy]
   |a::b::c::r=>
    rw[hl]at hz;simp only[AnR]at hz;show(a==42&&b==46&&isB (c::r) 7 62)=false;unfold isB;rw[An7 (show¬(c::r).length<=62 from by rw[AnR]; omega),AoD,AoD,Aoy]
  rw[e];exact⟨(⟨#[]⟩:ByteArray),rfl⟩
 ·have eb:(decide ((s.size:Int)<3)||decide ((s.size:Int)>64))=false:=by
   rw[Bool.or_eq_false_iff,decide_eq_false_iff_not,decide_eq_false_iff_not]; omega
  rw[eb];match hl:toL s with
  | []=>rw[hl,Aob]at hz; omega
  | [a]=>rw[hl,AnR,Aob]at hz; omega
  |a::b::r=>
   rw[hl,AnR,AnR]at hz;have ha:idx s.data.toList 0=some a:=by rw[show s.data.toList=a::b::r from hl]; rfl
   have hb:idx s.data.toList 1=some b:=by rw[show s.data.toList=a::b::r from hl]; rfl
   have ec2:Ts s 2 (s.size:Int)=some (s.extract 2 s.size):=by
    rw[Ig (by omega) (by omega) (by omega)]; rfl
   have el2:toL (s.extract 2 s.size)=r:=by
    rw[show toL (s.extract 2 s.size)=((toL s).take s.size).drop 2 from Np s 2 s.size,Aow (by rw[hl,AnR,AnR]; omega),hl]; rfl
   have hz2:(s.extract 2 s.size).size=r.length:=by rw[<-AN,<-el2]; rfl
   have en:=Vo (s:=s.extract 2 s.size) (by omega);rw[el2]at en;obtain⟨l,e5,h5⟩:=Ac6 (s:=s.extract 2 s.size) (by omega);rw[el2]at h5;have hlen:l.length=(BU r).length:=by rw[<-h5,AoB]
   have e42:((a.toNat:Int) !=42)= !(a==42):=by
    show(!((a.toNat:Int)==42))=_;have:((a.toNat:Int)==42)=(a==42):=by
     rw[Aoq,Aou,Aou,<-UInt8.toNat_inj];show _↔a.toNat=42;omega
    rw[this]
   have e46:((b.toNat:Int) !=46)= !(b==46):=by
    show(!((b.toNat:Int)==46))=_;have:((b.toNat:Int)==46)=(b==46):=by
     rw[Aoq,Aou,Aou,<-UInt8.toNat_inj];show _↔b.toNat=46;omega
    rw[this]
   rw[ha,hb,ec2];rw[show gu (!false) (some a)=some a from rfl,Aa,e42];have hst:AdB (a::b::r)=(a==42&&b==46&&isB r 7 62):=rfl;rw[hst];cases a==42 with
   |false=>exact⟨_,rfl⟩
   |true=>
    rw[show gu (!(false|| !true)) (some b)=some b from rfl,Aa,e46];cases b==46 with
    |false=>exact⟨_,rfl⟩
    |true=>
     rw[show gu (!((false|| !true)|| !true)) (some (s.extract 2 s.size))=some (s.extract 2 s.size)from rfl,Aa,en,show gu (!((false|| !true)|| !true)) (some (isB r 8 64))=some (isB r 8 64)from rfl,Aa];have hr:r.length<=62:=by omega
     unfold isB;rw[An1 (show r.length<=64 from by omega),An1 (show r.length<=62 from hr),Aof,Aof,Aof];cases hal:YL r with
     |false=>rw[Aoy,Aoy]; exact⟨_,rfl⟩
     |true=>
      rw[AoQ,AoQ];by_cases h8:(BU r).length<=8
      ·rw[An1 h8,AnW (by decide),Aa,e5,Aa];by_cases h7:(BU r).length<=7
       ·rw[An7 (show¬(l.length:Int)>7 from by omega),AnW (by decide),Aa,An1 h7];exact⟨_,rfl⟩
       ·rw[An1 (show(l.length:Int)>7 from by omega),AnT rfl,An7 h7];exact⟨_,rfl⟩
      ·rw[An7 h8,AnT (by decide),An7 (show¬(BU r).length<=7 from by omega)];exact⟨_,rfl⟩
theorem AaA {s:ByteArray}(hs:s.size<=100000):HZ s=some (patV s):=by
 obtain⟨t,e⟩:=AnN hs;unfold HZ;rw[e,Aa,Vo hs,Amp];cases AdB (toL s)with
 |true=>rw[Bool.or_true]; rfl
 |false=>
  rw[Bool.or_false];show Ab (gu true (some (isB (toL s) 8 64))) _=_;rw[PD,Aa];cases isB (toL s) 8 64<;>rfl
theorem Aka {s:ByteArray}(hs:s.size<=100000):FQ s=some (nameV s==0):=by
 rw[Vo hs,AiO];show _=some ((if isB (toL s) 8 64=true then(0:Int)else 110)==0);cases isB (toL s) 8 64<;>rfl
theorem E3 {α:Type}{l:List α}{i:Nat}{c:α}{r:List α}(h:l.drop i=c::r):l[i]? =some c/\l.drop (i+1)=r/\i<l.length:=by
 have h1:l[i]? =some c:=by
  have:(l.drop i)[0]? =some c:=by rw[h]; rfl
  simpa using this
 exact⟨h1,by rw[<-AoP,h]; rfl,(An2.1 h1).1⟩
theorem HJ {i:Nat}(h:i<=1000000):w64 ((i:Int)+1)=((i+1:Nat):Int):=by rw[HL (by omega) (by omega)]; omega
def LX (c:UInt8):Bool:=decide (33<=c.toNat)&&decide (c.toNat<=126)
def AlG (l:List UInt8):Bool:=decide (1<=l.length)&&decide (l.length<=64)&&l.all LX
theorem AcG {s:ByteArray}(hs:s.size<=100000): ∀(r:List UInt8) (i n:Nat),(toL s).drop i=r->r.length<n->∃(z:Nat),iter (Az s true) n i=some (if r.all LX=true then .inl z else .inr (z:Int))
 |r,i,0,_,h=>by omega
 | [],i,n+1,h,_=>by
  have hl:(toL s).length<=i:=Aoo.1 h;have hz:(toL s).length=s.size:=AN s;have e:Az s true i=some (.inr (.inl i)):=by
   unfold Az;rw[AnW (by omega)]
  refine⟨i,?_⟩;show Ab (Az s true i) _=_;rw[e]; rfl
 |c::r,i,n+1,h,hn=>by
  obtain⟨hc,hr,hlt⟩:=E3 h;have hz:(toL s).length=s.size:=AN s;obtain⟨z,ih⟩:=AcG hs r (i+1) n hr (by rw[AnR]at hn; omega);have e:Az s true i=some (if LX c=true then .inl (i+1)else .inr (.inr (i:Int))):=by
   unfold Az JZ;rw[AnT (show i<s.size from by omega),CG,CG,Aa];unfold LX;by_cases hb:c.toNat<128
   ·rw[Ak5 hc hb];have ec:(decide (((c.toNat:Nat):Int)<=32)||decide (((c.toNat:Nat):Int)>126))= !(decide (33<=c.toNat)&&decide (c.toNat<=126)):=by
     rw[Aoq];simp only[Aox,Bool.not_eq_true',Bool.and_eq_false_iff,AnV,decide_eq_false_iff_not];omega
    rw[ec];cases decide (33<=c.toNat)&&decide (c.toNat<=126)<;>rfl
   ·have hd:=Ak6 hc hb;generalize Utf8.decode s i=q at hd;rw[An1 (show((q.1:Nat):Int)>126 from by omega),Bool.or_true,An7 (show¬c.toNat<=126 from by omega),Aoy];rfl
  rw[AoE];cases hp:LX c with
  |false=>
   refine⟨i,?_⟩;show Ab (Az s true i) _=_;rw[e,hp]; rfl
  |true=>
   refine⟨z,?_⟩;show Ab (Az s true i) _=_;rw[e,hp,AnT rfl,Aof];exact ih
theorem Ah2 (s:ByteArray):textV s=AlG (toL s):=by
 have e:=Aa5 s;have hz:(toL s).length=s.size:=AN s;unfold D7 at e;have e0:(!eqS s (⟨#[]⟩:ByteArray))=decide (1<=(toL s).length):=by
  show(!((toL s)== []))=_;cases toL s with
  |nil=>rfl
  |cons a l=>rw[An1 (by rw[AnR]; omega)]; rfl
 have e1:decide ((s.size:Int)<=64)=decide ((toL s).length<=64):=by rw[Aov]; omega
 rw[e0,e1]at e;unfold AlG;by_cases h:(toL s).length<=64
 ·obtain⟨z,hl⟩:=AcG (s:=s) (by omega) (toL s) 0 AY rfl (by have:=Bw; omega);have ec:BC s=some (!((toL s).all LX)):=by
   unfold BC Db Cd;rw[hl];cases (toL s).all LX with
   |true=>rfl
   |false=>
    show some (decide ((z:Int)>=0))=_;rw[An1 (by omega)]; rfl
  rw[ec]at e;cases hd:decide (1<=(toL s).length)&&decide ((toL s).length<=64)with
  |false=>rw[hd]at e; exact(AnO e).symm
  |true=>
   rw[hd,PD,Aa,CG,Bool.not_not]at e;exact(AnO e).symm
 ·rw[An7 h,Aoy]at e⊢;exact(AnO e).symm
theorem Um {s:ByteArray}(hs:s.size<=100000): ∀(r:List UInt8) (i n:Nat),(toL s).drop i=r->r.length<n->iter (Cx s) n (i:Int)=some (if r.all LX=true then .inl ()else .inr false)
 |r,i,0,_,h=>by omega
 | [],i,n+1,h,_=>by
  have hl:(toL s).length<=i:=Aoo.1 h;have hz:(toL s).length=s.size:=AN s;have e:Cx s (i:Int)=some (.inr (.inl ())):=by
   unfold Cx;rw[An7 (by omega)];rfl
  show Ab (Cx s (i:Int)) _=_;rw[e]; rfl
 |c::r,i,n+1,h,hn=>by
  obtain⟨hc,hr,hlt⟩:=E3 h;have hz:(toL s).length=s.size:=AN s;have ih:=Um hs r (i+1) n hr (by rw[AnR]at hn; omega);have e:Cx s (i:Int)=some (if LX c=true then .inl ((i+1:Nat):Int)else .inr (.inr false)):=by
   unfold Cx;rw[An1 (by omega),AnT rfl,show idx s.data.toList (i:Int)=some c from C4 hc,Aa,HJ (by omega)];unfold LX;have e33:decide ((c.toNat:Int)<33)= !decide (33<=c.toNat):=by rw[<-decide_not,Aov]; omega
   have e126:decide ((c.toNat:Int)>126)= !decide (c.toNat<=126):=by rw[<-decide_not,Aov]; omega
   rw[e33];cases decide (33<=c.toNat)with
   |false=>rfl
   |true=>
    rw[show gu (!(!true)) (some c)=some c from rfl,Aa,e126];cases decide (c.toNat<=126)<;>rfl
  show Ab (Cx s (i:Int)) _=_;rw[e,AoE];cases LX c with
  |false=>rfl
  |true=>rw[AnT rfl,Aof]; exact ih
theorem Zs {s:ByteArray}(hs:s.size<=100000):I9 s=some (textV s):=by
 have hz:(toL s).length=s.size:=AN s;have hl:=Um hs (toL s) 0 AY rfl (by have:=Bw; omega);have hl:iter (Cx s) AY 0=some (if(toL s).all LX=true then .inl ()else .inr false):=hl;rw[Ah2];unfold I9 AlG;rw[hl];have e1:decide ((s.size:Int)>=1)=decide (1<=(toL s).length):=by rw[Aov]; omega
 have e2:decide ((s.size:Int)<=64)=decide ((toL s).length<=64):=by rw[Aov]; omega
 cases (toL s).all LX with
 |true=>
  show some (decide ((s.size:Int)>=1)&&decide ((s.size:Int)<=64))=_;rw[e1,e2,AoQ]
 |false=>rw[Aoy]; rfl
def Af3:List ByteArray->List ByteArray->Bool
 |_,[]=>true
 |met,s::l=> !(met.any (eqS s))&&Af3 (met++[s]) l
theorem UY (right:ByteArray->Int): ∀(l met:List ByteArray),Qk right met l=(l.all (λs=>right s==0)&&Af3 met l)
 | [],_=>rfl
 |s::l,met=>by
  show(!(met.any (eqS s))&&right s==0&&Qk right (met++[s]) l)=((right s==0&&l.all (λs=>right s==0))&&(!(met.any (eqS s))&&Af3 (met++[s]) l));rw[UY right l];cases met.any (eqS s)<;>cases right s==0<;>cases l.all (λs=>right s==0)<;>rfl
theorem AjH (a b:ByteArray):eqS a b=eqS b a:=by
 rw[Aoq,Jx,Jx];exact eq_comm
theorem Akf {l:List ByteArray}{i:Nat}{x:ByteArray}(hx:l[i]? =some x)(hi:i<=100000): ∀(r:List ByteArray) (k n:Nat),(l.take i).drop k=r->k<=i->r.length<n->iter (BJ l (i:Int)) n (k:Int)=some (if r.any (eqS x)=true then .inr false else .inl ())
 |r,k,0,_,_,h=>by omega
 | [],k,n+1,h,hk,_=>by
  have hl:i<l.length:=(An2.1 hx).1;have h2:=Aoo.1 h;rw[Aod]at h2;have e:BJ l (i:Int) (k:Int)=some (.inr (.inl ())):=by
   unfold BJ;rw[An7 (by omega)];rfl
  show Ab (BJ l (i:Int) (k:Int)) _=_;rw[e]; rfl
 |c::r,k,n+1,h,hk,hn=>by
  have hl:i<l.length:=(An2.1 hx).1;obtain⟨hc,hr,hlt⟩:=E3 h;rw[Aod]at hlt;have hc':l[k]? =some c:=by
   rw[List.getElem?_take]at hc;rw[AnT (by omega)]at hc;exact hc
  have ih:=Akf hx hi r (k+1) n hr (by omega) (by rw[AnR]at hn; omega);have e:BJ l (i:Int) (k:Int)=some (if eqS x c=true then .inr (.inr false)else .inl ((k+1:Nat):Int)):=by
   unfold BJ;rw[An1 (by omega),AnT rfl,C4 hc',Aa,C4 hx,Aa,HJ (by omega),AjH c x];cases eqS x c<;>rfl
  show Ab (BJ l (i:Int) (k:Int)) _=_;rw[e,List.any_cons];cases eqS x c with
  |true=>rfl
  |false=>rw[AnW (by decide),AoM]; exact ih
theorem AeH {l:List ByteArray}(hz:l.length<=100000): ∀(r:List ByteArray) (i n:Nat),l.drop i=r->r.length<n->iter (BK l) n (i:Int)=some (if Af3 (l.take i) r=true then .inl ()else .inr false)
 |r,i,0,_,h=>by omega
 | [],i,n+1,h,_=>by
  have hl:l.length<=i:=Aoo.1 h;have e:BK l (i:Int)=some (.inr (.inl ())):=by
   unfold BK;rw[An7 (by omega)];rfl
  show Ab (BK l (i:Int)) _=_;rw[e]; rfl
 |c::r,i,n+1,h,hn=>by
  obtain⟨hc,hr,hlt⟩:=E3 h;have ih:=AeH hz r (i+1) n hr (by rw[AnR]at hn; omega);have hin:=Akf hc (by omega) (l.take i) 0 AY rfl (by omega) (by have:=Bw; rw[Aod]; omega);have hin:iter (BJ l (i:Int)) AY 0=some (if(l.take i).any (eqS c)=true then .inr false else .inl ()):=hin;have e:BK l (i:Int)=some (if(l.take i).any (eqS c)=true then .inr (.inr false)else .inl ((i+1:Nat):Int)):=by
   unfold BK;rw[An1 (by omega),AnT rfl,hin,Aa,HJ (by omega)];cases (l.take i).any (eqS c)<;>rfl
  have ht:l.take (i+1)=l.take i++[c]:=by rw[List.take_add_one,hc]; rfl
  show Ab (BK l (i:Int)) _=_;rw[e];show _=some (if(!((l.take i).any (eqS c))&&Af3 (l.take i++[c]) r)=true then _ else _);cases (l.take i).any (eqS c)with
  |true=>rfl
  |false=>
   rw[AnW (by decide),<-ht];exact ih
theorem Wb {l:List ByteArray}(hz:l.length<=100000):GI l=some (Af3 [] l):=by
 have h:=AeH hz l 0 AY rfl (by have:=Bw; omega);have h:iter (BK l) AY 0=some (if Af3 [] l=true then .inl ()else .inr false):=h;unfold GI;rw[h];cases Af3 [] l<;>rfl
structure FewP (c:g_api_Cert):Prop where
 issuer:c.Issuer.size<=100000
 subject:c.Subject.size<=100000
 names: ∀s∈c.Names,s.size<=100000
 nnames:c.Names.length<=100000
 permit: ∀s∈c.Permit,s.size<=100000
 npermit:c.Permit.length<=100000
 nproms:c.Proms.length<=100000
def VL (a:UInt8)(rest:Int):Bool:=(rest==0&&decide (a.toNat<128))||(rest== -1&&decide (128<=a.toNat))
theorem Ajg (a:UInt8)(l:List UInt8)(rest:Int)(hl:l.length<=100):GK (a::l,rest)=some (if VL a rest=true then .inr (a::l)else .inl (toB rest::a::l,rest/256)):=by
 unfold GK VL;show Ab (gu (rest==0) (idx (a::l) 0)) _=_;rw[show idx (a::l) 0=some a from rfl];have e1:decide ((a.toNat:Int)<128)=decide (a.toNat<128):=by rw[Aov]; omega
 have e2:decide ((a.toNat:Int)>=128)=decide (128<=a.toNat):=by rw[Aov]; omega
 have ea:app 1 ([toB rest]:List UInt8) (a::l)=some (toB rest::a::l):=by
  rw[Ly 1 (by simp only[AnR,Aob]; omega) (by simp only[AnR,Aob]; omega)]; rfl
 cases h0:rest==0 with
 |true=>
  have hr:rest=0:=by simpa using h0
  have h1:(rest== -1)=false:=by rw[hr]; rfl
  rw[PD,Aa,h1];show Ab (gu ((!(true&&decide ((a.toNat:Int)<128)))&&false) (some a)) _=_;rw[Aoy,Aaa,Aa,e1];cases decide (a.toNat<128)with
  |true=>rfl
  |false=>
   show Ab (app 1 ([toB rest]:List UInt8) (a::l)) _=_;rw[ea,Aa,XK];rfl
 |false=>
  rw[Aaa,Aa];show Ab (gu ((!(false&&_))&&(rest== -1)) (some a)) _=_;cases h1:rest== -1 with
  |true=>
   show Ab (some a) _=_;rw[Aa,e2];cases decide (128<=a.toNat)with
   |true=>rfl
   |false=>
    show Ab (app 1 ([toB rest]:List UInt8) (a::l)) _=_;rw[ea,Aa,XK];rfl
  |false=>
   show Ab (some default) _=_;rw[Aa];show Ab (app 1 ([toB rest]:List UInt8) (a::l)) _=_;rw[ea,Aa,XK];rfl
theorem AeW {a:UInt8}{l:List UInt8}{rest:Int}(h:VL a rest=true):AhE (a::l)=Zm rest (a::l):=by
 show Zm (s8 a) l=Zm (rest*256+(a.toNat:Int)) l;congr 1;have ha:=a.toNat_lt;unfold VL at h;simp only[Aox,AnP,Aou,AnV]at h;unfold s8;rcases h with ⟨h1,h2⟩|⟨h1,h2⟩
 ·rw[AnT h2,h1]; omega
 ·rw[AnW (by omega),h1]; omega
theorem AdA {a c:UInt8}{l:List UInt8}{rest:Int}(hl:l.length<=6)(h:VL a rest=true)(hp:VL c (rest*256+(a.toNat:Int))=false):Jz (a::c::l)=true:=by
 cases hq:Jz (a::c::l)with
 |true=>rfl
 |false=>
  have hs:=(ZW hl).1 hq;have ha:=a.toNat_lt;exfalso;unfold VL at h hp;simp only[Aox,AnP,Aou,AnV]at h;simp only[Bool.or_eq_false_iff,Bool.and_eq_false_iff,Aon,decide_eq_false_iff_not]at hp;by_cases hc:c.toNat<128
  ·rw[AnT hc]at hs;omega
  ·rw[AnW hc]at hs;omega
theorem AcU: ∀(k:Nat) (a:UInt8) (l:List UInt8) (rest n:Int) (f:Nat),(a::l).length+k=8->k<f-> -(128*256^k)<=rest*256+(a.toNat:Int)->rest*256+(a.toNat:Int)<128*256^k->
  Zm rest (a::l)=n->(∀c r,l=c::r->VL c (rest*256+(a.toNat:Int))=false)->iter GK f (a::l,rest)=some (Zo (be8 n))
 |k,a,l,rest,n,0,_,h,_,_,_,_=>by omega
 |k,a,l,rest,n,f+1,hk,hf,h0,h1,hv,hp=>by
  have hlen:l.length+1+k=8:=by simpa using hk
  show Ab (GK (a::l,rest)) _=_;rw[Ajg a l rest (by omega)];cases hs:VL a rest with
  |true=>
   have hl:Jz (a::l)=true:=by
    cases l with
    |nil=>rfl
    |cons c r=>exact AdA (by rw[AnR]at hlen; omega) hs (hp c r rfl)
   have:=Ai4 hl;rw[AeW hs,hv]at this;rw[this];rfl
  |false=>
   rw[AnW (by decide)];cases k with
   |zero=>
    exfalso;have ha:=a.toNat_lt;rw[Int.pow_zero]at h0 h1;unfold VL at hs;simp only[Bool.or_eq_false_iff,Bool.and_eq_false_iff,Aon,decide_eq_false_iff_not]at hs;omega
   |succ k=>
    have hb:=RW rest;have hq:rest/256*256+((toB rest).toNat:Int)=rest:=by omega
    have ha:=a.toNat_lt;rw[Int.pow_succ]at h0 h1;refine AcU k (toB rest) (a::l) (rest/256) n f (by simp only[AnR]; omega) (by omega) ?_ ?_ ?_ ?_
    ·rw[hq]; omega
    ·rw[hq]; omega
    ·show Zm (rest/256*256+((toB rest).toNat:Int)) (a::l)=n;rw[hq]; exact hv
    ·intro c r e;cases e;rw[hq]; exact hs
theorem Nm {n:Int}(h0: -9223372036854775808<=n)(h1:n<=9223372036854775807):CA n=some (Vu n):=by
 have hb:=RW n;have hq:n/256*256+((toB n).toNat:Int)=n:=by omega
 have e:=AcU 7 (toB n) [] (n/256) n AY (by simp) (by have:=Bw; omega) (by rw[hq]; show-(128*72057594037927936)<=n; omega) (by rw[hq]; show n<128*72057594037927936; omega) (by show n/256*256+((toB n).toNat:Int)=n; exact hq) (λc r e=>by cases e);unfold CA;rw[XK,e];rfl
theorem YI (x:UInt64):CA (w64 (x.toNat:Int))=some (Sj x):=by
 have:=Ake (x.toNat:Int);have h2: -9223372036854775808<=w64 (x.toNat:Int):=by unfold w64; omega
 exact Nm h2 (by omega)
theorem TB {l:List g_api_Item}(h:l.length<=1000000):Hm l=some (XL l):=by
 unfold Hm;rw[Qp 56 (by omega) (by omega)]; rfl
theorem AlR {l:List g_api_Item}(h:l.length<=1000000):JR l=some (XL l):=by
 unfold JR;rw[Qp 56 (by omega) (by omega)]; rfl
theorem Uo {s:ByteArray}(h:s.size<=1000000):Hs s=some (Kj s):=by
 unfold Hs;rw[Qp 1 (by rw[AN]; omega) (by rw[AN]; omega)]; rfl
theorem Ahn (v:Bool):Oz v=some (YG v):=by cases v<;>rfl
theorem Sz {l:List ByteArray}(hz: ∀s∈l,s.size<=100000)(hn:l.length<=100000): ∀(r:List ByteArray) (i f:Nat) (o:List g_api_Item),l.drop i=r->r.length<f->o.length<=i->iter (BG l) f ((i:Int),o)=some (o++r.map Kj)
 |r,i,0,o,_,h,_=>by omega
 | [],i,f+1,o,h,_,_=>by
  have hl:l.length<=i:=Aoo.1 h;have e:BG l ((i:Int),o)=some (.inr o):=by
   unfold BG;show(if decide ((i:Int)<(l.length:Int))=true then _ else _)=_;rw[An7 (by omega)];rfl
  show Ab (BG l ((i:Int),o)) _=_;rw[e];simp
 |s::r,i,f+1,o,h,hf,ho=>by
  obtain⟨hc,hr,hlt⟩:=E3 h;have e:BG l ((i:Int),o)=some (.inl (((i+1:Nat):Int),o++[Kj s])):=by
   unfold BG;show(if decide ((i:Int)<(l.length:Int))=true then _ else _)=_;rw[An1 (by omega),AnT rfl];show Ab (idx l (i:Int)) _=_;rw[C4 hc,Aa,Uo (by have:=hz s (Aoh hc); omega),Aa];show Ab (app 56 o [Kj s]) _=_;rw[Ly 56 (by show(o.length+1)*56<=_; omega) (by show o.length+1<=_; omega),Aa,HJ (by omega)]
  show Ab (BG l ((i:Int),o)) _=_;rw[e];show iter (BG l) f (((i+1:Nat):Int),o++[Kj s])=_;rw[Sz hz hn r (i+1) f (o++[Kj s]) hr (by rw[AnR]at hf; omega) (by rw[AnY]; show o.length+1<=_; omega)];simp
theorem Wd {l:List ByteArray}(hz: ∀s∈l,s.size<=100000)(hn:l.length<=100000):Ge l=some (Pv l):=by
 have h:=Sz hz hn l 0 AY [] rfl (by have:=Bw; omega) (by simp);have h:iter (BG l) AY (0,[])=some (l.map Kj):=h;unfold Ge;rw[h];rfl
structure Fits (c:g_api_Cert):Prop where
 few:FewP c
 serial: -9223372036854775808<=c.Serial/\c.Serial<=9223372036854775807
 frm: -9223372036854775808<=c.From/\c.From<=9223372036854775807
 til: -9223372036854775808<=c.Until/\c.Until<=9223372036854775807
 depth: -9223372036854775808<=c.Depth/\c.Depth<=9223372036854775807
 proms: ∀p∈c.Proms,(-9223372036854775808<=p.Log/\p.Log<=9223372036854775807)/\(-9223372036854775808<=p.At/\p.At<=9223372036854775807)
theorem AiB {c:g_api_Cert}(h:Fits c):MW c=some (Akx c):=by
 have k:=h.few;have k1:=k.issuer; have k2:=k.subject; have k3:=k.nnames; have k4:=k.npermit;unfold MW;rw[Nm h.serial.1 h.serial.2,Aa,Uo (s:=c.Issuer) (by omega),Aa,Uo (s:=c.Subject) (by omega),Aa,YI,Aa,Wd (l:=c.Names) (λs hs=>by have:=k.names s hs; omega) (by omega),Aa,Nm h.frm.1 h.frm.2,Aa,
  Nm h.til.1 h.til.2,Aa,Ahn,Aa,Nm h.depth.1 h.depth.2,Aa,Wd (l:=c.Permit) (λs hs=>by have:=k.permit s hs; omega) (by omega),Aa,TB (by simp),Aa]
 rfl
theorem AeI (a b:UInt64):IC a b=some [Sj a,Sj b]:=by
 unfold IC;rw[YI,Aa,YI,Aa]
theorem Vi {c:g_api_Cert}(h:Fits c): ∀(r:List g_api_Promise) (i f:Nat) (o:List g_api_Item),c.Proms.drop i=r->r.length<f->o.length<=i->iter (BW c) f ((i:Int),o)=some (o++r.map Oo)
 |r,i,0,o,_,h,_=>by omega
 | [],i,f+1,o,h,_,_=>by
  have hl:c.Proms.length<=i:=Aoo.1 h;have e:BW c ((i:Int),o)=some (.inr o):=by
   unfold BW;show(if decide ((i:Int)<(c.Proms.length:Int))=true then _ else _)=_;rw[An7 (by omega)];rfl
  show Ab (BW c ((i:Int),o)) _=_;rw[e];simp
 |p::r,i,f+1,o,hd,hf,ho=>by
  obtain⟨hc,hr,hlt⟩:=E3 hd;have hp:=h.proms p (Aoh hc);have hn:=h.few.nproms;have e:BW c ((i:Int),o)=some (.inl (((i+1:Nat):Int),o++[Oo p])):=by
   unfold BW;show(if decide ((i:Int)<(c.Proms.length:Int))=true then _ else _)=_;rw[An1 (by omega),AnT rfl];show Ab (idx c.Proms (i:Int)) _=_;rw[C4 hc,Aa,Nm hp.1.1 hp.1.2,Aa,Nm hp.2.1 hp.2.2,Aa,AlR (by simp),Aa,AeI,Aa];show Ab (app 56 [Vu p.Log,Vu p.At] [Sj p.Leaf.1,Sj p.Leaf.2]) _=_;rw[Ly 56 (by simp) (by simp),Aa,AeI,Aa,Ly 56 (by simp) (by simp),Aa];show Ab (app 56 o [Oo p]) _=_;rw[Ly 56 (by show(o.length+1)*56<=_; omega) (by show o.length+1<=_; omega),Aa,HJ (by omega)]
  show Ab (BW c ((i:Int),o)) _=_;rw[e];show iter (BW c) f (((i+1:Nat):Int),o++[Oo p])=_;rw[Vi h r (i+1) f (o++[Oo p]) hr (by rw[AnR]at hf; omega) (by rw[AnY]; show o.length+1<=_; omega)];simp
theorem Ahp {c:g_api_Cert}(h:Fits c):I8 c=some (YH c):=by
 have hn:=h.few.nproms;have hl:=Vi h c.Proms 0 AY [] rfl (by have:=Bw; omega) (by simp);have hl:iter (BW c) AY (0,[])=some (c.Proms.map Oo):=hl;unfold I8;rw[hl,Aa,Aa,AiB h,Aa,TB (by simp),Aa];rfl
theorem Adq {c:g_api_Cert}(h:Fits c):JL c=some (wholeI c):=by
 unfold JL;rw[Ahp h,Aa,AeI,Aa,TB (by simp),Aa,TB (by simp),Aa];rfl
theorem Q5 (n:Int):Hl n=some (numB n):=rfl
theorem AcN (a b:UInt64)(n:Nat):decide ((Vt a b).toNat<n)=(decide (a.toNat<n)&&decide (b.toNat<n)):=by
 rw[Aoq,AnP,AnV,AnV,AnV];unfold Vt;by_cases hc:b>a
 ·rw[AnT hc];have:=UInt64.lt_iff_toNat_lt.1 hc;omega
 ·rw[AnW hc];have: ¬a.toNat<b.toNat:=λx=>hc (UInt64.lt_iff_toNat_lt.2 x);omega
theorem Yd (x:UInt64)(n:Nat):decide ((x.toNat:Int)<(n:Int))=decide (x.toNat<n):=by rw[Aov]; omega
theorem Acj (s:g_api_Sig):GJ s=some (sigB s):=by
 have e1:decide ((s.E.toNat:Int)<1152921504606845789)=decide (s.E.toNat<1152921504606845789):=Yd s.E 1152921504606845789;have e2:decide ((s.S.toNat:Int)<1152921504606845789)=decide (s.S.toNat<1152921504606845789):=Yd s.S 1152921504606845789;unfold GJ sigB;rw[CG,AcN,e1,e2]
theorem AfM (p:g_api_Promise):HY p=some (promBC p):=by
 have e1:decide ((p.Leaf.1.toNat:Int)<2305843009213693951)=decide (p.Leaf.1.toNat<2305843009213693951):=Yd p.Leaf.1 2305843009213693951;have e2:decide ((p.Leaf.2.toNat:Int)<2305843009213693951)=decide (p.Leaf.2.toNat<2305843009213693951):=Yd p.Leaf.2 2305843009213693951;unfold HY promBC;rw[Q5,Aa,Q5,Yn,Aa,Acj,Yn,Aa,CG,AcN,e1,e2];cases numB p.Log<;>cases numB p.At<;>cases decide (p.Leaf.1.toNat<2305843009213693951)<;>cases decide (p.Leaf.2.toNat<2305843009213693951)<;>cases sigB p.Sig<;>rfl
theorem SD {c:g_api_Cert}(hz: ∀s∈c.Names,s.size<=100000)(hn:c.Names.length<=100000): ∀(r:List ByteArray) (i f:Nat),c.Names.drop i=r->r.length<f->iter (Cv c) f (i:Int)=some (if r.all (λs=>nameV s==0)=true then .inl ()else .inr false)
 |r,i,0,_,h=>by omega
 | [],i,f+1,h,_=>by
  have hl:c.Names.length<=i:=Aoo.1 h;have e:Cv c (i:Int)=some (.inr (.inl ())):=by
   unfold Cv;rw[An7 (by omega)];rfl
  show Ab (Cv c (i:Int)) _=_;rw[e]; rfl
 |s::r,i,f+1,h,hf=>by
  obtain⟨hc,hr,hlt⟩:=E3 h;have ih:=SD hz hn r (i+1) f hr (by rw[AnR]at hf; omega);have e:Cv c (i:Int)=some (if(nameV s==0)=true then .inl ((i+1:Nat):Int)else .inr (.inr false)):=by
   unfold Cv;rw[An1 (by omega),AnT rfl,C4 hc,Aa,Aka (hz s (Aoh hc)),Aa,HJ (by omega)];cases nameV s==0<;>rfl
  show Ab (Cv c (i:Int)) _=_;rw[e,AoE];cases nameV s==0 with
  |false=>rfl
  |true=>rw[AnT rfl,Aof]; exact ih
theorem Q0 {c:g_api_Cert}(hz: ∀s∈c.Permit,s.size<=100000)(hn:c.Permit.length<=100000): ∀(r:List ByteArray) (i f:Nat),c.Permit.drop i=r->r.length<f->iter (Cu c) f (i:Int)=some (if r.all (λs=>patV s==0)=true then .inl ()else .inr false)
 |r,i,0,_,h=>by omega
 | [],i,f+1,h,_=>by
  have hl:c.Permit.length<=i:=Aoo.1 h;have e:Cu c (i:Int)=some (.inr (.inl ())):=by
   unfold Cu;rw[An7 (by omega)];rfl
  show Ab (Cu c (i:Int)) _=_;rw[e]; rfl
 |s::r,i,f+1,h,hf=>by
  obtain⟨hc,hr,hlt⟩:=E3 h;have ih:=Q0 hz hn r (i+1) f hr (by rw[AnR]at hf; omega);have e:Cu c (i:Int)=some (if(patV s==0)=true then .inl ((i+1:Nat):Int)else .inr (.inr false)):=by
   unfold Cu;rw[An1 (by omega),AnT rfl,C4 hc,Aa,AaA (hz s (Aoh hc)),Aa,HJ (by omega)];show(if(!(patV s==0))=true then _ else _)=_;cases patV s==0<;>rfl
  show Ab (Cu c (i:Int)) _=_;rw[e,AoE];cases patV s==0 with
  |false=>rfl
  |true=>rw[AnT rfl,Aof]; exact ih
def Ai7 (c:g_api_Cert):Bool:=if c.Ca=true then textV c.Subject&&((c.Names.length:Int)==0)&&decide (c.Depth>=0)&&decide (c.Depth<=4)&&listV patV c.Permit 0 8 else eqS c.Subject (⟨#[]⟩:ByteArray)&&listV nameV c.Names 1 8&&(c.Depth==0)&&((c.Permit.length:Int)==0)
theorem Agj {c:g_api_Cert}(h:FewP c):Lb c=some (Ai7 c):=by
 have h1:=h.nnames; have h2:=h.npermit; have h3:=h.subject;unfold Lb Ai7;cases c.Ca with
 |false=>
  have hl:=SD (c:=c) (λs hs=>by have:=h.names s hs; omega) (by omega) c.Names 0 AY rfl (by have:=Bw; omega);have hl:iter (Cv c) AY 0=some (if c.Names.all (λs=>nameV s==0)=true then .inl ()else .inr false):=hl;show(if(!false)=true then _ else _)=some (eqS c.Subject (⟨#[]⟩:ByteArray)&&(Qk nameV [] c.Names&&decide ((c.Names.length:Int)>=1)&&decide ((c.Names.length:Int)<=8))&&(c.Depth==0)&&((c.Permit.length:Int)==0));rw[AnT (show(!false)=true from rfl),hl,Wb (by omega),UY];cases c.Names.all (λs=>nameV s==0)with
  |false=>
   show some false=_;rw[AoD,AoD,AoD,Aoy,AoD,AoD]
  |true=>
   rw[AnT (show true=true from rfl),Aa];show Ab (gu _ (some (Af3 [] c.Names))) _=_;rw[Yn,Aa,CG,Aof];cases eqS c.Subject (⟨#[]⟩:ByteArray)<;>cases decide ((c.Names.length:Int)>=1)<;>cases decide ((c.Names.length:Int)<=8)<;>cases Af3 [] c.Names<;>rfl
 |true=>
  have hl:=Q0 (c:=c) (λs hs=>by have:=h.permit s hs; omega) (by omega) c.Permit 0 AY rfl (by have:=Bw; omega);have hl:iter (Cu c) AY 0=some (if c.Permit.all (λs=>patV s==0)=true then .inl ()else .inr false):=hl;show(if(!true)=true then _ else _)=some (textV c.Subject&&((c.Names.length:Int)==0)&&decide (c.Depth>=0)&&decide (c.Depth<=4)&&(Qk patV [] c.Permit&&decide ((c.Permit.length:Int)>=0)&&decide ((c.Permit.length:Int)<=8)));rw[AnW (show¬(!true)=true from by decide),hl,Wb (by omega),Zs (by omega),UY,An1 (show(c.Permit.length:Int)>=0 from by omega)];cases c.Permit.all (λs=>patV s==0)with
  |false=>
   show some false=_;rw[AoD,AoD,AoD,Aoy]
  |true=>
   rw[AnT (show true=true from rfl),Aa];show Ab (some (textV c.Subject)) _=_;rw[Aa,Yn,Aa,CG,Aof];cases textV c.Subject<;>cases ((c.Names.length:Int)==0)<;>cases decide (c.Depth>=0)<;>cases decide (c.Depth<=4)<;>cases decide ((c.Permit.length:Int)<=8)<;>cases Af3 [] c.Permit<;>rfl
theorem AfL {p:g_api_Promise}(h:promBC p=true):0<=p.Log:=by
 unfold promBC at h;simp only[AnP]at h;have:=h.1.1.1;unfold numB at this;simp only[AnP,AnV]at this;omega
theorem SB {c:g_api_Cert}(hn:c.Proms.length<=100000): ∀(r:List g_api_Promise) (i f:Nat) (last:Int),c.Proms.drop i=r->r.length<f->(i=0->last= -1)->(1<=i->∃q,c.Proms[i-1]? =some q/\q.Log=last)->
  iter (Cw c) f (i:Int)=some (if promsB last r=true then .inl ()else .inr false)
 |r,i,0,last,_,h,_,_=>by omega
 | [],i,f+1,last,h,_,_,_=>by
  have hl:c.Proms.length<=i:=Aoo.1 h;have e:Cw c (i:Int)=some (.inr (.inl ())):=by
   unfold Cw;rw[An7 (by omega)];rfl
  show Ab (Cw c (i:Int)) _=_;rw[e]; rfl
 |p::r,i,f+1,last,h,hf,l0,l1=>by
  obtain⟨hc,hr,hlt⟩:=E3 h;have ih:=SB hn r (i+1) f p.Log hr (by rw[AnR]at hf; omega) (by omega) (λ_=>⟨p,hc,rfl⟩);have e:Cw c (i:Int)=some (if(promBC p&& !(decide (p.Log<=last)))=true then .inl ((i+1:Nat):Int)else .inr (.inr false)):=by
   unfold Cw;rw[An1 (show(i:Int)<(c.Proms.length:Int)from by omega),AnT rfl,C4 hc,Aa,AfM,Aa,HJ (by omega)];cases hp:promBC p with
   |false=>rfl
   |true=>
    by_cases h0:i=0
    ·have hl:=l0 h0;have hpl:=(AfL hp);rw[An7 (show¬(i:Int)>0 from by omega),An7 (show¬p.Log<=last from by omega)];rfl
    ·obtain⟨q,hq,hql⟩:=l1 (by omega);have hw:w64 ((i:Int)-1)=((i-1:Nat):Int):=by rw[HL (by omega) (by omega)]; omega
     rw[An1 (show(i:Int)>0 from by omega),hw,C4 hq];show Ab (some q) (λx10=>Ab (some p) λx11=>if((!true)||(true&&decide (x10.Log>=x11.Log)))=true then some (.inr (.inr false):Int⊕(Unit⊕Bool))else some (.inl ((i+1:Nat):Int)))=_;rw[Aa,Aa,hql];have:decide (last>=p.Log)=decide (p.Log<=last):=rfl;rw[this];cases decide (p.Log<=last)<;>rfl
  show Ab (Cw c (i:Int)) _=_;rw[e];show _=some (if(promBC p&& !(decide (p.Log<=last))&&promsB p.Log r)=true then _ else _);cases promBC p&& !(decide (p.Log<=last))with
  |false=>rfl
  |true=>rw[AnT rfl,Aof]; exact ih
theorem AgF {c:g_api_Cert}(h:FewP c):Lc c=some (formB c):=by
 have h1:=h.issuer; have h2:=h.nproms;have hl:=SB (c:=c) (by omega) c.Proms 0 AY (-1) rfl (by have:=Bw; omega) (λ_=>rfl) (λh=>by omega);have hl:iter (Cw c) AY 0=some (if promsB (-1) c.Proms=true then .inl ()else .inr false):=hl;have eF:formB c=(promsB (-1) c.Proms&&(numB c.Serial&&numB c.From&&numB c.Until&&decide (c.From<c.Until))&&
  (textV c.Issuer&&(!((c.Key.toNat:Int)==0))&&decide ((c.Key.toNat:Int)<2305843009213691579)&&decide ((c.Proms.length:Int)<=4)&&sigB c.Sig)&&Ai7 c):=rfl
 have e1:decide (c.From>=c.Until)= !decide (c.From<c.Until):=by rw[<-decide_not,Aov]; omega
 have e2:decide ((c.Key.toNat:Int)>=2305843009213691579)= !decide ((c.Key.toNat:Int)<2305843009213691579):=by rw[<-decide_not,Aov]; omega
 have e3:decide ((c.Proms.length:Int)>4)= !decide ((c.Proms.length:Int)<=4):=by rw[<-decide_not,Aov]; omega
 have e4:decide ((c.Key.toNat:Int)<1)=((c.Key.toNat:Int)==0):=by
  rw[Aoq,AnV,Aou]; omega
 rw[eF];unfold Lc;rw[Q5,Aa,Q5,Yn,Aa,Q5,Yn,Aa,Zs (by omega),Yn,Aa,Acj,Yn,Aa,hl,Agj h,e1,e2,e3,e4];generalize numB c.Serial=a1;generalize numB c.From=a2;generalize numB c.Until=a3;generalize decide (c.From<c.Until)=a4;generalize textV c.Issuer=b1;generalize ((c.Key.toNat:Int)==0)=b2;generalize decide ((c.Key.toNat:Int)<2305843009213691579)=b3;generalize decide ((c.Proms.length:Int)<=4)=b4;generalize sigB c.Sig=b5;generalize Ai7 c=k;generalize promsB (-1) c.Proms=p;cases a1<;>cases a2<;>cases a3<;>cases a4<;>try (cases p<;>rfl)
 all_goals cases b1<;>cases b2<;>cases b3<;>cases b4<;>cases b5<;>cases p<;>try rfl
 all_goals cases k<;>rfl
theorem AdV (l:List UInt8):JQ l=some (Jz l):=by
 match l with
 | []=>rfl
 | [a]=>rfl
 |a::b::l=>
  unfold JQ;by_cases h8:(a::b::l).length<=8
  ·have e0:(decide (((a::b::l).length:Int)<1)||decide (((a::b::l).length:Int)>8))=false:=by
    rw[Bool.or_eq_false_iff,decide_eq_false_iff_not,decide_eq_false_iff_not];simp only[AnR]at h8⊢;omega
   have e1:(((a::b::l).length:Int)==1)=false:=by simp only[Aon,AnR]; omega
   have i0:idx (a::b::l) 0=some a:=rfl;have i1:idx (a::b::l) 1=some b:=rfl;have el:Jz (a::b::l)= !((a.toNat:Int)==if b.toNat<128 then 0 else 255):=by
    show(decide (((a::b::l).length:Int)<=8)&& !((a.toNat:Int)==((toB (-((Ae0 b 7).toNat:Int))).toNat:Int)))=_;rw[Zu,An1 (show((a::b::l).length:Int)<=8 from by omega),Aof]
   rw[e0,AnW (by decide),e1,i0,i1,el];rw[show gu (!false) (some a)=some a from rfl,Aa];have ha:=a.toNat_lt;cases hz:((a.toNat:Int)==0)with
   |true=>
    have hz':(a.toNat:Int)=0:=by simpa using hz
    have h255:((a.toNat:Int)==255)=false:=by rw[Aon]; omega
    rw[show gu ((!false)&&true) (some b)=some b from rfl,Aa];by_cases hb:b.toNat<128
    ·rw[An1 (show(b.toNat:Int)<128 from by omega),AnT hb,hz];rfl
    ·rw[An7 (show¬(b.toNat:Int)<128 from by omega),AnW hb,h255];rw[show gu ((!false)&&(!(true&&false))) (some a)=some a from rfl,Aa,h255];rfl
   |false=>
    rw[show gu ((!false)&&false) (some b)=some default from rfl,Aa];rw[show gu ((!false)&&(!(false&&decide (((default:UInt8).toNat:Int)<128)))) (some a)=some a from rfl,Aa];cases h255:((a.toNat:Int)==255)with
    |true=>
     rw[show gu (((!false)&&(!(false&&decide (((default:UInt8).toNat:Int)<128))))&&true) (some b)=some b from rfl,Aa,CG];by_cases hb:b.toNat<128
     ·rw[An7 (show¬(b.toNat:Int)>=128 from by omega),AnT hb,hz];rfl
     ·rw[An1 (show(b.toNat:Int)>=128 from by omega),AnW hb,h255];rfl
    |false=>
     rw[show gu (((!false)&&(!(false&&decide (((default:UInt8).toNat:Int)<128))))&&false) (some b)=some default from rfl,Aa,CG];by_cases hb:b.toNat<128
     ·rw[AnT hb,hz]; rfl
     ·rw[AnW hb,h255]; rfl
  ·have e0:(decide (((a::b::l).length:Int)<1)||decide (((a::b::l).length:Int)>8))=true:=by
    rw[Aox,AnV,AnV]; omega
   rw[e0,AnT rfl];show some false=some (decide (((a::b::l).length:Int)<=8)&&_);rw[An7 (by omega),AoD]
theorem Un {l:List UInt8}(hn:l.length<=1000000): ∀(r:List UInt8) (i f:Nat),l.drop i=r->r.length<f->iter (Cy l) f (i:Int)=some (if LW r=true then .inl ()else .inr false)
 |r,i,0,_,h=>by omega
 | [],i,f+1,h,_=>by
  have hl:l.length<=i:=Aoo.1 h;have e:Cy l (i:Int)=some (.inr (.inl ())):=by
   unfold Cy;rw[An7 (by omega)];rfl
  show Ab (Cy l (i:Int)) _=_;rw[e]; rfl
 |c::r,i,f+1,h,hf=>by
  obtain⟨hc,hr,hlt⟩:=E3 h;have ih:=Un hn r (i+1) f hr (by rw[AnR]at hf; omega);have e:Cy l (i:Int)=some (if(decide (32<=c.toNat)&&decide (c.toNat<=126))=true then .inl ((i+1:Nat):Int)else .inr (.inr false)):=by
   unfold Cy;rw[An1 (by omega),AnT rfl,C4 hc,Aa,HJ (by omega)];have e33:decide ((c.toNat:Int)<32)= !decide (32<=c.toNat):=by rw[<-decide_not,Aov]; omega
   have e126:decide ((c.toNat:Int)>126)= !decide (c.toNat<=126):=by rw[<-decide_not,Aov]; omega
   rw[e33];cases decide (32<=c.toNat)with
   |false=>rfl
   |true=>
    rw[show gu (!(!true)) (some c)=some c from rfl,Aa,e126];cases decide (c.toNat<=126)<;>rfl
  show Ab (Cy l (i:Int)) _=_;rw[e];show _=some (if((decide (32<=c.toNat)&&decide (c.toNat<=126))&&LW r)=true then _ else _);cases decide (32<=c.toNat)&&decide (c.toNat<=126)with
  |false=>rfl
  |true=>rw[AnT rfl,Aof]; exact ih
theorem Ah3 {l:List UInt8}(hn:l.length<=1000000):Lg l=some (LW l):=by
 have h:=Un hn l 0 AY rfl (by have:=Bw; omega);have h:iter (Cy l) AY 0=some (if LW l=true then .inl ()else .inr false):=h;unfold Lg;rw[h];cases LW l<;>rfl
def It:Nat->g_api_Item->Prop
 |0,_=>True
 |d+1,x=>x.B.length<=1000000/\x.L.length<=1000000/\∀y∈x.L,It d y
theorem Aad (rF:g_api_Item->Option Bool)(p:g_api_Item->Bool){x:g_api_Item}(hn:x.L.length<=1000000)(hp: ∀y∈x.L,rF y=some (p y)): ∀(r:List g_api_Item) (i f:Nat),x.L.drop i=r->r.length<f->
  iter (Cz rF x) f (i:Int)=some (if r.all p=true then .inl ()else .inr false)
 |r,i,0,_,h=>by omega
 | [],i,f+1,h,_=>by
  have hl:x.L.length<=i:=Aoo.1 h;have e:Cz rF x (i:Int)=some (.inr (.inl ())):=by
   unfold Cz;rw[An7 (by omega)];rfl
  show Ab (Cz rF x (i:Int)) _=_;rw[e]; rfl
 |y::r,i,f+1,h,hf=>by
  obtain⟨hc,hr,hlt⟩:=E3 h;have ih:=Aad rF p hn hp r (i+1) f hr (by rw[AnR]at hf; omega);have e:Cz rF x (i:Int)=some (if p y=true then .inl ((i+1:Nat):Int)else .inr (.inr false)):=by
   unfold Cz;rw[An1 (by omega),AnT rfl,C4 hc,Aa,hp y (Aoh hc),Aa,HJ (by omega)];cases p y<;>rfl
  show Ab (Cz rF x (i:Int)) _=_;rw[e,AoE];cases p y with
  |false=>rfl
  |true=>rw[AnT rfl,Aof]; exact ih
theorem Aae: ∀(d n:Nat) (x:g_api_Item),d<=n->Yv d x->It d x->EA n x=some (mayB d x)
 |0,n,x,_,h,_=>h.elim
 |d+1,0,x,h,_,_=>by omega
 |d+1,n+1,x,hn,hd,hs=>by
  have ih: ∀y∈x.L,EA n y=some (mayB d y):=λy hy=>Aae d n y (by omega) (hd y hy) (hs.2.2 y hy);have hl:=Aad (EA n) (mayB d) hs.2.1 ih x.L 0 AY rfl (by have:=Bw; have:=hs.2.1; omega);have hl:iter (Cz (EA n) x) AY 0=some (if x.L.all (mayB d)=true then .inl ()else .inr false):=hl;show IP (EA n) x=_;unfold IP mayB;have e2:decide ((x.L.length:Int)>0)= !x.L.isEmpty:=by
   cases x.L with
   |nil=>rfl
   |cons a l=>show decide _=true; rw[AnV,AnR]; omega
  rw[e2,show(x.Tag !=48)= !(x.Tag==48)from rfl];cases hE:x.L.isEmpty with
  |false=>
   cases h48:x.Tag==48 with
   |false=>
    rw[show((!false)&&(!false))=true from rfl,AnT rfl,AoM,Aoy,AoD]
   |true=>
    have ht:x.Tag=48:=by simpa using h48
    rw[show((!true)&&(!false))=false from rfl,AnW (by decide),ht,AnW (by decide),AnW (by decide),AnW (by decide),AnW (by decide),AnT (by decide),hl];show _=some ((x.B.isEmpty&&(true||false))&&x.L.all (mayB d));have eb:((x.B.length:Int)==0)=x.B.isEmpty:=by
     cases x.B with
     |nil=>rfl
     |cons a l=>show _=false; rw[Aon,AnR]; omega
    cases x.L.all (mayB d)with
    |false=>rw[Aoy]; rfl
    |true=>
     show some ((x.B.length:Int)==0)=_;rw[eb,AoQ,Bool.true_or,AoQ]
  |true=>
   have hLn:x.L=[]:=List.isEmpty_iff.1 hE;have hall:x.L.all (mayB d)=true:=by rw[hLn]; rfl
   rw[hall]at hl;rw[hall,Bool.or_true,AoQ,AoQ,AoI,Aoy,AnW (by decide)];by_cases h1:x.Tag=1
   ·rw[h1,AnT (by decide)];have:=ZX x.B;unfold Gn at this;rw[this];rfl
   rw[AnW (show¬(x.Tag==1)=true from by simp[h1])];by_cases h2:x.Tag=2
   ·rw[h2,AnT (by decide),AdV];rfl
   rw[AnW (show¬(x.Tag==2)=true from by simp[h2])];by_cases h4:x.Tag=4
   ·rw[h4,AnT (by decide)];rfl
   rw[AnW (show¬(x.Tag==4)=true from by simp[h4])];by_cases h12:x.Tag=12
   ·rw[h12,AnT (by decide),Ah3 hs.1];rfl
   rw[AnW (show¬(x.Tag==12)=true from by simp[h12])];by_cases h48:x.Tag=48
   ·rw[h48,AnT (by decide),hl];have eb:((x.B.length:Int)==0)=x.B.isEmpty:=by
     cases x.B with
     |nil=>rfl
     |cons a l=>show _=false; rw[Aon,AnR]; omega
    show some ((x.B.length:Int)==0)=some x.B.isEmpty;rw[eb]
   ·rw[AnW (show¬(x.Tag==48)=true from by simp[h48])];unfold AdW;rw[AnW h1,AnW h2,AnW h4,AnW h12,AnW h48]
theorem Aaq (rF:g_api_Item->Option Int)(d:Nat){x:g_api_Item}(hn:x.L.length<=1000000)(hp: ∀y∈x.L,∃k:Int,rF y=some k/\1<=k/\k<=d): ∀(r:List g_api_Item) (i f:Nat) (m:Int),x.L.drop i=r->r.length<f->0<=m->m<=d->
  ∃k:Int,iter (CB rF x) f (m,(i:Int))=some k/\0<=k/\k<=d
 |r,i,0,m,_,h,_,_=>by omega
 | [],i,f+1,m,h,_,h0,h1=>by
  have hl:x.L.length<=i:=Aoo.1 h;have e:CB rF x (m,(i:Int))=some (.inr m):=by
   unfold CB;show(if decide ((i:Int)<(x.L.length:Int))=true then _ else _)=_;rw[An7 (by omega)];rfl
  refine⟨m,?_,h0,h1⟩;show Ab (CB rF x (m,(i:Int))) _=_;rw[e]; rfl
 |y::r,i,f+1,m,h,hf,h0,h1=>by
  obtain⟨hc,hr,hlt⟩:=E3 h;obtain⟨q,hq,q1,q2⟩:=hp y (Aoh hc);obtain⟨k,e,k0,k1⟩:=Aaq rF d hn hp r (i+1) f (Af8 m q) hr (by rw[AnR]at hf; omega) (by unfold Af8; split<;>omega) (by unfold Af8; split<;>omega);refine⟨k,?_,k0,k1⟩;have es:CB rF x (m,(i:Int))=some (.inl (Af8 m q,((i+1:Nat):Int))):=by
   unfold CB;show(if decide ((i:Int)<(x.L.length:Int))=true then _ else _)=_;rw[An1 (by omega),AnT rfl];show Ab (idx x.L (i:Int)) _=_;rw[C4 hc,Aa,hq,Aa,HJ (by omega)]
  show Ab (CB rF x (m,(i:Int))) _=_;rw[es];exact e
theorem AgV: ∀(d n:Nat) (x:g_api_Item),d<=n->d<=1000->Yv d x->It d x->∃k:Int,FL n x=some k/\1<=k/\k<=d
 |0,n,x,_,_,h,_=>h.elim
 |d+1,0,x,h,_,_,_=>by omega
 |d+1,n+1,x,hn,hk,hd,hs=>by
  obtain⟨k,e,k0,k1⟩:=Aaq (FL n) d hs.2.1 (λy hy=>AgV d n y (by omega) (by omega) (hd y hy) (hs.2.2 y hy)) x.L 0 AY 0 rfl (by have:=Bw; have:=hs.2.1; omega) (by omega) (by omega);have e:iter (CB (FL n) x) AY (0,0)=some k:=e;refine⟨k+1,?_,by omega,by omega⟩;show GL (FL n) x=_;unfold GL;rw[e,Aa,Aa,HL (by omega) (by omega)]
theorem Akb {x:g_api_Item}(hd:Yv 8 x)(hs:It 8 x):M5 x=some (mayB 8 x):=by
 obtain⟨k,e,k0,k1⟩:=AgV 8 AY x (by have:=Bw; omega) (by decide) hd hs;have e:Oy x=some k:=e;have ef:Ox x=some (mayB 8 x):=Aae 8 AY x (by have:=Bw; omega) hd hs;unfold M5;rw[ef,Aa,e];cases mayB 8 x with
 |false=>rfl
 |true=>
  rw[PD,Aa,An1 (show k<=8 from by omega)];rfl
theorem AbC {n:Nat}(hn:n<=100000000000000):IN (n:Int)=some (U0 n):=by
 unfold IN U0;by_cases h1:n<128
 ·rw[An1 (show(n:Int)<128 from by omega),AnT rfl,AnT h1]
 ·rw[An7 (show¬(n:Int)<128 from by omega),AnW (by decide),AnW h1];by_cases h2:n<256
  ·rw[An1 (show(n:Int)<256 from by omega),AnT rfl,AnT h2]
  ·rw[An7 (show¬(n:Int)<256 from by omega),AnW (by decide),AnW h2,CG];have e:w64 (Int.tdiv (n:Int) 256)=A9 (n:Int) 8:=by
    have:Int.tdiv (n:Int) 256=(n:Int)/256:=Int.tdiv_eq_ediv_of_nonneg (by omega);rw[this];unfold A9;rw[Int.fdiv_eq_ediv_of_nonneg _ (by decide)];show w64 ((n:Int)/256)=(n:Int)/256;rw[HL (by omega) (by omega)]
   rw[e]
theorem WM (rF:g_api_Item->Option (List UInt8))(p:g_api_Item->List UInt8){x:g_api_Item}(hn:x.L.length<=1000000)(hp: ∀y∈x.L,rF y=some (p y)): ∀(r:List g_api_Item) (i f:Nat) (a:List UInt8),x.L.drop i=r->r.length<f->a.length+(r.flatMap p).length<=100000000000000->
  iter (BI rF x) f (a,(i:Int))=some (a++r.flatMap p)
 |r,i,0,a,_,h,_=>by omega
 | [],i,f+1,a,h,_,_=>by
  have hl:x.L.length<=i:=Aoo.1 h;have e:BI rF x (a,(i:Int))=some (.inr a):=by
   unfold BI;show(if decide ((i:Int)<(x.L.length:Int))=true then _ else _)=_;rw[An7 (by omega)];rfl
  show Ab (BI rF x (a,(i:Int))) _=_;rw[e];simp
 |y::r,i,f+1,a,h,hf,ha=>by
  obtain⟨hc,hr,hlt⟩:=E3 h;rw[AoK,AnY]at ha;have es:BI rF x (a,(i:Int))=some (.inl (a++p y,((i+1:Nat):Int))):=by
   unfold BI;show(if decide ((i:Int)<(x.L.length:Int))=true then _ else _)=_;rw[An1 (by omega),AnT rfl];show Ab (idx x.L (i:Int)) _=_;rw[C4 hc,Aa,hp y (Aoh hc),Aa];show Ab (app 1 a (p y)) _=_;rw[Ly 1 (by omega) (by omega),Aa,HJ (by omega)]
  show Ab (BI rF x (a,(i:Int))) _=_;rw[es];show iter (BI rF x) f (a++p y,((i+1:Nat):Int))=_;rw[WM rF p hn hp r (i+1) f (a++p y) hr (by rw[AnR]at hf; omega) (by rw[AnY]; omega),AoK,An3]
theorem AcL (p:g_api_Item->List UInt8){y:g_api_Item}: ∀{l:List g_api_Item},y∈l->(p y).length<=(l.flatMap p).length
 |z::l,h=>by
  rw[AoK,AnY];rcases Aom.1 h with e|h
  ·rw[e]; omega
  ·have:=AcL p h; omega
theorem Ahi: ∀(d n:Nat) (x:g_api_Item),d<=n->Yv d x->It d x->(putB d x).length<=10000000000000->DQ n x=some (putB d x)
 |0,n,x,_,h,_,_=>h.elim
 |d+1,0,x,h,_,_,_=>by omega
 |d+1,n+1,x,hn,hd,hs,hl=>by
  have eP:putB (d+1) x=toB x.Tag::(U0 (x.B++x.L.flatMap (putB d)).length++(x.B++x.L.flatMap (putB d))):=rfl;rw[eP]at hl⊢;simp only[AnR,AnY]at hl;have ih: ∀y∈x.L,DQ n y=some (putB d y):=λy hy=>Ahi d n y (by omega) (hd y hy) (hs.2.2 y hy) (by have:=AcL (putB d) hy; omega);have hloop:=WM (DQ n) (putB d) hs.2.1 ih x.L 0 AY x.B rfl (by have:=Bw; have:=hs.2.1; omega) (by omega);have hloop:iter (BI (DQ n) x) AY (x.B,0)=some (x.B++x.L.flatMap (putB d)):=hloop;show H3 (DQ n) x=_;unfold H3;have hb:=Ye (x.B++x.L.flatMap (putB d)).length;rw[Qp 1 (by omega) (by omega),Aa,hloop,Aa,Aa];have hc:(x.B++x.L.flatMap (putB d)).length<=10000000000000:=by rw[AnY]; omega
  generalize x.B++x.L.flatMap (putB d)=c at hb hc⊢;rw[AbC (by omega),Aa,Ly 1 (by simp only[AnR,Aob]; omega) (by simp only[AnR,Aob]; omega),Aa,Ly 1 (by simp only[AnY,AnR,Aob]; omega) (by simp only[AnY,AnR,Aob]; omega),Aa];simp
theorem Aj7 {x:g_api_Item}(hd:Yv 8 x)(hs:It 8 x)(hl:(putB 8 x).length<=10000000000):M4 x=KD x:=by
 rw[Ahz (by omega)];unfold M4;rw[Akb hd hs,Aa];cases hm:mayB 8 x with
 |false=>rfl
 |true=>
  have eb:MZ x=some (putB 8 x):=Ahi 8 AY x (by have:=Bw; omega) hd hs (by omega);rw[show(!true)=false from rfl,AnW (by decide),eb,Aa,AnT rfl];by_cases h:(putB 8 x).length<=8192
  ·rw[An7 (show¬((putB 8 x).length:Int)>8192 from by omega),AnT h];rfl
  ·rw[An1 (show((putB 8 x).length:Int)>8192 from by omega),AnW h];rfl
structure Nums (c:g_api_Cert):Prop where
 serial:0<=c.Serial/\c.Serial<=1099511627776
 frm:0<=c.From/\c.From<=1099511627776
 til:0<=c.Until/\c.Until<=1099511627776
 key:c.Key.toNat<2305843009213691579
 depth:0<=c.Depth/\c.Depth<=4
 sig:sigB c.Sig=true
 proms: ∀p∈c.Proms,promBC p=true
theorem Q4 {n:Int}(h:numB n=true):0<=n/\n<=1099511627776:=by
 unfold numB at h;simp only[AnP,AnV]at h;omega
theorem Form.nums {c:g_api_Cert}(h:Form c):Nums c:=by
 refine⟨Q4 h.serial,Q4 h.frm,Q4 h.til,by have:=h.keyQ; omega,?_,h.sig,Wh h.proms⟩;cases hc:c.Ca with
 |true=>obtain⟨_,_,a,b,_⟩:=h.ca hc; exact⟨a,b⟩
 |false=>obtain⟨_,_,a,_⟩:=h.leaf hc; omega
theorem AcM {a b:UInt64}{n:Nat}(h:(Vt a b).toNat<n):a.toNat<n/\b.toNat<n:=by
 unfold Vt at h;by_cases hc:b>a
 ·rw[AnT hc]at h;have:=UInt64.lt_iff_toNat_lt.1 hc;omega
 ·rw[AnW hc]at h;have: ¬a.toNat<b.toNat:=λx=>hc (UInt64.lt_iff_toNat_lt.2 x);omega
theorem Aie {s:g_api_Sig}(h:sigB s=true):s.E.toNat<1152921504606845789/\s.S.toNat<1152921504606845789:=by
 unfold sigB at h;exact AcM (AoN h)
theorem AfK {p:g_api_Promise}(h:promBC p=true):(0<=p.Log/\p.Log<=1099511627776)/\(0<=p.At/\p.At<=1099511627776)/\(p.Leaf.1.toNat<2305843009213693951/\p.Leaf.2.toNat<2305843009213693951)/\p.Sig.E.toNat<1152921504606845789/\p.Sig.S.toNat<1152921504606845789:=by
 unfold promBC at h;simp only[AnP]at h;exact⟨Q4 h.1.1.1,Q4 h.1.1.2,AcM (AoN h.1.2),Aie h.2⟩
structure Okc (c:g_api_Cert):Prop where
 form:Form c
 fb:formB c=true
 may:mayB 8 (wholeI c)=true
 len:(putB 8 (wholeI c)).length<=2048
theorem Okc.chk {c:g_api_Cert}(h:Okc c):checkV c=0:=by
 unfold checkV;rw[h.fb,AnT rfl,AnT ⟨h.may,h.len⟩]
def bodyBy (c:g_api_Cert):List UInt8:=putB 8 (YH c)
theorem Vb {p q:g_api_Sig}:Gr p q=true↔p=q:=by
 cases p; cases q;unfold Gr;simp
theorem WD {p q:g_api_Promise}:Ea p q=true↔p=q:=by
 obtain⟨a,b,⟨c,d⟩,e⟩:=p;obtain⟨a',b',⟨c',d'⟩,e'⟩:=q;unfold Ea Nr;simp[Vb]
theorem Ang {c:g_api_Cert}(h:FewP c)(F:Form c):Fits c:=by
 have n:=F.nums;have h1:=n.serial; have h2:=n.frm; have h3:=n.til; have h4:=n.depth;refine⟨h,by omega,by omega,by omega,by omega,λp hp=> ?_⟩;obtain⟨q1,q2,_⟩:=AfK (n.proms p hp);omega
theorem He {x:g_api_Item}(h:x.L=[])(d:Nat):Yv (d+1) x:=by
 intro y hy;rw[h]at hy;cases hy
theorem Qo {d:Nat}{l:List g_api_Item}(h: ∀y∈l,Yv d y):Yv (d+1) (XL l):=h
theorem Abd {x:g_api_Item}(h:x.L=[])(hb:x.B.length<=1000000)(d:Nat):It d x:=by
 cases d with
 |zero=>trivial
 |succ d=>
  refine⟨hb,by rw[h]; simp,λy hy=> ?_⟩;rw[h]at hy;cases hy
theorem Us {d:Nat}{l:List g_api_Item}(hl:l.length<=1000000)(h: ∀y∈l,It d y):It (d+1) (XL l):=⟨by show(0:Nat)<=_; omega,hl,h⟩
theorem SA (n:Int)(d:Nat):It d (Vu n):=Abd rfl (by have:=Tz (be8 n); have h8:(be8 n).length=8:=rfl; show(Zo (be8 n)).length<=_; omega) d
theorem Abc {s:ByteArray}(h:s.size<=1000000)(d:Nat):It d (Kj s):=Abd rfl (by show s.data.toList.length<=_; rw[AN]; exact h) d
theorem AlI (v:Bool)(d:Nat):It d (YG v):=Abd rfl (by show(1:Nat)<=_; omega) d
theorem Aap (l:List ByteArray)(d:Nat):Yv (d+2) (Pv l):=Qo λy hy=>by
 obtain⟨s,_,e⟩:=List.mem_map.1 hy;rw[<-e]; exact He rfl d
theorem Ach {l:List ByteArray}(hl:l.length<=100000)(h: ∀s∈l,s.size<=100000)(d:Nat):It (d+1) (Pv l):=Us (by rw[AoB]; omega) λy hy=>by
 obtain⟨s,hs,e⟩:=List.mem_map.1 hy;rw[<-e]; exact Abc (by have:=h s hs; omega) d
theorem Anr (c:g_api_Cert)(d:Nat):Yv (d+3) (Akx c):=Qo λy hy=>by
 simp only[Aom,List.not_mem_nil,or_false]at hy;rcases hy with q|q|q|q|q|q|q|q|q|q<;>rw[q]
 ·exact He rfl _
 ·exact He rfl _
 ·exact He rfl _
 ·exact He rfl _
 ·exact Aap _ _
 ·exact He rfl _
 ·exact He rfl _
 ·exact He rfl _
 ·exact He rfl _
 ·exact Aap _ _
theorem sm_pre {c:g_api_Cert}(h:FewP c)(d:Nat):It (d+2) (Akx c):=Us (by simp) λy hy=>by
 have h1:=h.issuer; have h2:=h.subject; have h3:=h.nnames; have h4:=h.npermit;simp only[Aom,List.not_mem_nil,or_false]at hy;rcases hy with q|q|q|q|q|q|q|q|q|q<;>rw[q]
 ·exact SA _ _
 ·exact Abc (by omega) _
 ·exact Abc (by omega) _
 ·exact SA _ _
 ·exact Ach (by omega) (λs hs=>by have:=h.names s hs; omega) _
 ·exact SA _ _
 ·exact SA _ _
 ·exact AlI _ _
 ·exact SA _ _
 ·exact Ach (by omega) (λs hs=>by have:=h.permit s hs; omega) _
theorem AjQ (p:g_api_Promise)(d:Nat):Yv (d+2) (Oo p):=Qo λy hy=>by
 simp only[Aom,List.not_mem_nil,or_false]at hy;rcases hy with q|q|q|q|q|q<;>rw[q]<;>exact He rfl _
theorem AlH (p:g_api_Promise)(d:Nat):It (d+1) (Oo p):=Us (by simp) λy hy=>by
 simp only[Aom,List.not_mem_nil,or_false]at hy;rcases hy with q|q|q|q|q|q<;>rw[q]<;>exact SA _ _
theorem AjR (c:g_api_Cert)(d:Nat):Yv (d+4) (YH c):=Qo (AiY (Anr c d) (Qo λy hy=>by
 obtain⟨p,_,e⟩:=List.mem_map.1 hy;rw[<-e]; exact AjQ p d))
theorem AlJ {c:g_api_Cert}(h:FewP c)(d:Nat):It (d+3) (YH c):=Us (by simp) (AiY (sm_pre h d) (Us (by rw[AoB]; have:=h.nproms; omega) λy hy=>by
 obtain⟨p,_,e⟩:=List.mem_map.1 hy;rw[<-e]; exact AlH p d))
theorem Anq (a b:UInt64)(d:Nat):Yv (d+2) (XL [Sj a,Sj b]):=Qo (AiY (He rfl d) (He rfl d))
theorem sm_sig (a b:UInt64)(d:Nat):It (d+1) (XL [Sj a,Sj b]):=Us (by simp) (AiY (SA _ d) (SA _ d))
theorem AgT (c:g_api_Cert):Yv 8 (wholeI c):=Qo (AiY (AjR c 3) (Anq _ _ 5))
theorem Aic {c:g_api_Cert}(h:FewP c):It 8 (wholeI c):=Us (by simp) (AiY (AlJ h 4) (sm_sig _ _ 6))
theorem Ad9 {c:g_api_Cert}(h:FewP c):JM c=some (checkV c):=by
 unfold JM checkV;rw[AgF h,Aa];cases hf:formB c with
 |false=>rfl
 |true=>
  have F:=AgE hf;have hs:=F.sized;have hl:=V2 8 hs;rw[show(!true)=false from rfl,AnW (by decide),Adq (Ang h F),Aa,Aj7 (AgT c) (Aic h) (by omega),Ahz (by omega),Ag8,AnT rfl]
theorem Uu {a b:g_api_Cert}(hab:a.Proms.length=b.Proms.length)(hn:a.Proms.length<=100000): ∀(r q:List g_api_Promise) (i f:Nat),a.Proms.drop i=r->b.Proms.drop i=q->r.length<f->
  ∃z,iter (BX a b) f (i:Int)=some z/\(z= .inl ()↔r=q)/\(z= .inl ()\/z= .inr false)
 |r,q,i,0,_,_,h=>by omega
 | [],q,i,f+1,h,hq,_=>by
  have hl:a.Proms.length<=i:=Aoo.1 h;have hqn:q=[]:=by rw[<-hq]; exact Aog (by omega)
  have e:BX a b (i:Int)=some (.inr (.inl ())):=by
   unfold BX;rw[An7 (by omega)];rfl
  refine⟨.inl (),?_,by simp[hqn],.inl rfl⟩;show Ab (BX a b (i:Int)) _=_;rw[e]; rfl
 |p::r,[],i,f+1,h,hq,_=>by
  obtain⟨hc,hr,hlt⟩:=E3 h;have:=Aoo.1 hq;omega
 |p::r,s::q,i,f+1,h,hq,hf=>by
  obtain⟨hc,hr,hlt⟩:=E3 h;obtain⟨hc2,hq2,hlt2⟩:=E3 hq;obtain⟨z,ih,z1,z2⟩:=Uu hab hn r q (i+1) f hr hq2 (by rw[AnR]at hf; omega);have e:BX a b (i:Int)=some (if Ea p s=true then .inl ((i+1:Nat):Int)else .inr (.inr false)):=by
   unfold BX;rw[An1 (by omega),AnT rfl,C4 hc,Aa,C4 hc2,Aa,HJ (by omega)];cases Ea p s<;>rfl
  cases hp:Ea p s with
  |false=>
   have ne:p::r≠s::q:=λx=>by
    have:=WD.2 (List.cons.inj x).1;rw[hp]at this; cases this
   refine⟨.inr false,?_,by simp only[reduceCtorEq,false_iff]; exact ne,.inr rfl⟩;show Ab (BX a b (i:Int)) _=_;rw[e,hp]; rfl
  |true=>
   refine⟨z,?_,?_,z2⟩
   ·show Ab (BX a b (i:Int)) _=_;rw[e,hp,AnT rfl];exact ih
   ·rw[z1,WD.1 hp];exact⟨λx=>by rw[x],λx=>(List.cons.inj x).2⟩
theorem Uv {a b:List ByteArray}(hab:a.length=b.length)(hn:a.length<=100000): ∀(r q:List ByteArray) (i f:Nat),a.drop i=r->b.drop i=q->r.length<f->
  iter (BY a b) f (i:Int)=some (if r=q then .inl ()else .inr false)
 |r,q,i,0,_,_,h=>by omega
 | [],q,i,f+1,h,hq,_=>by
  have hl:a.length<=i:=Aoo.1 h;have hqn:q=[]:=by rw[<-hq]; exact Aog (by omega)
  have e:BY a b (i:Int)=some (.inr (.inl ())):=by
   unfold BY;rw[An7 (by omega)];rfl
  show Ab (BY a b (i:Int)) _=_;rw[e,hqn,AnT rfl]; rfl
 |p::r,[],i,f+1,h,hq,_=>by
  obtain⟨hc,hr,hlt⟩:=E3 h;have:=Aoo.1 hq;omega
 |p::r,s::q,i,f+1,h,hq,hf=>by
  obtain⟨hc,hr,hlt⟩:=E3 h;obtain⟨hc2,hq2,hlt2⟩:=E3 hq;have ih:=Uv hab hn r q (i+1) f hr hq2 (by rw[AnR]at hf; omega);have e:BY a b (i:Int)=some (if eqS p s=true then .inl ((i+1:Nat):Int)else .inr (.inr false)):=by
   unfold BY;rw[An1 (by omega),AnT rfl,C4 hc,Aa,C4 hc2,Aa,HJ (by omega)];cases eqS p s<;>rfl
  show Ab (BY a b (i:Int)) _=_;rw[e];cases hp:eqS p s with
  |false=>
   have:p::r≠s::q:=λx=>by
    have:=Jx.2 (List.cons.inj x).1;rw[hp]at this; cases this
   rw[AnW this]; rfl
  |true=>
   rw[AnT rfl];show iter (BY a b) f ((i+1:Nat):Int)=_;rw[ih,Jx.1 hp];by_cases hrq:r=q
   ·rw[AnT hrq,AnT (by rw[hrq])]
   ·rw[AnW hrq,AnW (λx=>hrq (List.cons.inj x).2)]
theorem Ako {a b:List ByteArray}(hn:a.length<=100000): ∃r,Hr a b=some r/\(r=true↔a=b):=by
 unfold Hr;by_cases h:a.length=b.length
 ·have e:((a.length:Int) !=(b.length:Int))=false:=by rw[h]; simp
  have hl:=Uv h hn a b 0 AY rfl rfl (by have:=Bw; omega);have hl:iter (BY a b) AY 0=some (if a=b then .inl ()else .inr false):=hl;rw[e,AnW (by decide),hl];by_cases hq:a=b
  ·rw[AnT hq]; exact⟨true,rfl,by simp[hq]⟩
  ·rw[AnW hq]; exact⟨false,rfl,by simp[hq]⟩
 ·have e:((a.length:Int) !=(b.length:Int))=true:=by simp; omega
  rw[e,AnT rfl];exact⟨false,rfl,by simp only[Bool.false_eq_true,false_iff]; exact λx=>h (by rw[x])⟩
theorem AdC {a b:g_api_Cert}(ha:a.Proms.length<=100000/\a.Names.length<=100000/\a.Permit.length<=100000): ∃r,Dr a b=some r/\(r=true↔a=b):=by
 obtain⟨r1,e1,h1⟩:=Ako (a:=a.Names) (b:=b.Names) ha.2.1;obtain⟨r2,e2,h2⟩:=Ako (a:=a.Permit) (b:=b.Permit) ha.2.2;have hk:((a.Key.toNat:Int) !=(b.Key.toNat:Int))= !(a.Key==b.Key):=by
  show(!((a.Key.toNat:Int)==(b.Key.toNat:Int)))=_;have:((a.Key.toNat:Int)==(b.Key.toNat:Int))=(a.Key==b.Key):=by
   rw[Aoq,Aou,Aou,<-UInt64.toNat_inj];omega
  rw[this]
 unfold Dr;split
 ·rename_i hc;refine⟨false,rfl,?_⟩;simp only[Bool.false_eq_true,false_iff];rintro rfl;simp only[Aox,bne_self_eq_false,Bool.not_eq_true',Bool.false_eq_true,false_or,or_false,Jx.2 rfl,Vb.2 rfl,Bool.true_eq_false]at hc
 ·rename_i hc;rw[hk]at hc;simp only[Aox,not_or,Bool.not_eq_true,bne_eq_false_iff_eq,Bool.not_eq_false',Jx,Vb,Aou]at hc;obtain⟨⟨⟨⟨⟨⟨⟨⟨⟨q1,q2⟩,q3⟩,q4⟩,q5⟩,q6⟩,q7⟩,q8⟩,q9⟩,q10⟩:=hc;have hlen:a.Proms.length=b.Proms.length:=by omega
  obtain⟨z,hl,z1,z2⟩:=Uu hlen ha.1 a.Proms b.Proms 0 AY rfl rfl (by have:=Bw; omega);have hl:iter (BX a b) AY 0=some z:=hl;rw[hl,Aa];rcases z2 with z2|z2
  ·subst z2;have hp:=z1.1 rfl;show∃r,Ab (Hr a.Names b.Names) _=some r/\_;rw[e1,Aa,e2,Yn,Aa];refine⟨_,rfl,?_⟩;have:(r1&&(r1&&r2))=true↔(a.Names=b.Names/\a.Permit=b.Permit):=by
    rw[<-h1,<-h2];cases r1<;>cases r2<;>simp
   rw[this];constructor
   ·rintro⟨n1,n2⟩;cases a; cases b;simp only at*;simp[q1,q2,q3,q4,q5,q6,q7,q8,q9,hp,n1,n2]
   ·rintro rfl;exact⟨rfl,rfl⟩
  ·subst z2;exact⟨false,rfl,by simp only[Bool.false_eq_true,false_iff]; exact λx=>absurd (z1.2 (by rw[x])) (by simp)⟩
theorem Aav (c:g_api_Cert):Ci c=some (checkV c):=Aha c
def sigV (p:UInt64)(m:List UInt8)(s:g_api_Sig):Int:=(EB p m s).getD 1
def linkV (a b:g_api_Cert):Int:=if checkV a≠0 then checkV a else if checkV b≠0 then checkV b else if((!b.Ca)||(!eqS a.Issuer b.Subject))=true then 191 else if sigV b.Key (bodyBy a) a.Sig≠0 then 40 else 0
def timeB (c:g_api_Cert)(now:Int):Bool:=decide (c.From<=now)&&decide (c.Until>now)
def caB:Nat->List g_api_Cert->Bool
 |_,[]=>true
 |i,c::r=>(c.Ca==decide (0<i))&&caB (i+1) r
def linksV:List g_api_Cert->Int
 |a::b::r=>if linkV a b≠0 then linkV a b else linksV (b::r)
 |_=>0
structure PathOk (roots:List g_api_Cert)(leaf:g_api_Cert)(more:List g_api_Cert)(name:ByteArray)(now:Int):Prop where
 len:more.length<=3
 rts:roots.length<=16
 now0:0<=now
 nowM:now<=1099511627776
 nam:nameV name=0
 all: ∀c∈leaf::more++roots,checkV c=0
 kin:caB 0 (leaf::more)=true
 has:(leaf.Names.any λs=>eqS name s)=true
 tim: ∀c∈leaf::more,timeB c now=true
 lnk:linksV (leaf::more)=0
theorem WG {α σ τ:Type}{body:Int->σ->Option (σ⊕τ)}(xs:List α)(p:α->Bool)(s:σ)(g:Nat->τ)(h: ∀(i:Nat) (x:α),xs[i]? =some x->body (i:Int) s=some (if p x=true then .inr (g i)else .inl s)):
  ∀(k i:Nat),i+k=xs.length->∃r,CE body k (i:Int) s=some r/\((∃(j:Nat) (x:α),xs[j]? =some x/\p x=true/\r= .inr (g j))\/((∀x∈xs.drop i,p x=false)/\r= .inl s))
 |0,i,hi=>⟨.inl s,rfl,.inr ⟨(λx hx=>by rw[Aog (by omega)]at hx; cases hx),rfl⟩⟩
 |k+1,i,hi=>by
  have hx:xs[i]? =some xs[i]:=Aot (by omega);show∃r,Ab (body (i:Int) s) _=_/\_;rw[h i _ hx];cases hp:p xs[i]with
  |true=>exact⟨_,rfl,.inl ⟨i,_,hx,hp,rfl⟩⟩
  |false=>
   obtain⟨r,h1,h2⟩:=WG xs p s g h k (i+1) (by omega);refine⟨r,h1,?_⟩;rcases h2 with q|⟨q,e⟩
   ·exact .inl q
   ·refine .inr ⟨λx hx'=> ?_,e⟩;rw[List.drop_eq_getElem_cons (by omega)]at hx';rcases Aom.1 hx' with w|w
    ·rw[w]; exact hp
    ·exact q x w
theorem Ns {α σ τ:Type}{body:Int->σ->Option (σ⊕τ)}(xs:List α)(p:α->Bool)(s:σ)(g:Nat->τ)(h: ∀(i:Nat) (x:α),xs[i]? =some x->body (i:Int) s=some (if p x=true then .inr (g i)else .inl s)):
  ∃r,CE body xs.length 0 s=some r/\((∃(j:Nat) (x:α),xs[j]? =some x/\p x=true/\r= .inr (g j))\/(xs.any p=false/\r= .inl s)):=by
 obtain⟨r,h1,h2⟩:=WG xs p s g h xs.length 0 (by omega);refine⟨r,h1,?_⟩;rcases h2 with q|⟨q,e⟩
 ·exact .inl q
 ·exact .inr ⟨List.any_eq_false.2 λx hx=>by rw[q x (by simpa using hx)]; decide,e⟩
theorem Aln {α:Type}{xs:List α}{p:α->Bool}{j:Nat}{x:α}(h:xs[j]? =some x)(hp:p x=true):xs.any p=true:=List.any_eq_true.2 ⟨x,Aoh h,hp⟩
theorem Am1 {α:Type} [Inhabited α]{o:Option α}:gu true o=o:=rfl
theorem ge0 (j:Nat):decide ((j:Int)>=0)=true:=An1 (by omega)
theorem Ahh (k:UInt64): ∃b,Dy k=some b:=by
 unfold Dy;obtain⟨x,hx⟩:=OK ((decide ((k.toNat:Int)>0))&&(decide ((k.toNat:Int)<2305843009213691579))) (o:=DY k 1152921504606845789) ⟨_,ZG _ _⟩;rw[hx,Aa];exact⟨_,rfl⟩
theorem Ag1 (n:Int):B0 n=some (decide (0<=n)&&decide (n<=1099511627776)):=rfl
theorem ZA (l:List g_api_Cert): ∃b,Ar l=some b:=by
 unfold Ar AU;obtain⟨r,h1,h2⟩:=Ns (body:=AI l) l (λc=>(!c.Ca)||((if c.Ca=true then checkV c else default) !=0)) () (λi=>(i:Int)) (λi x hx=>by
  unfold AI D2;rw[Cm hx,Aa];have:gu (!(!x.Ca)) (Ci x)=some (if x.Ca=true then checkV x else default):=by
   rw[Aav]; cases x.Ca<;>rfl
  rw[this,Aa,Aa];cases ((!x.Ca)||((if x.Ca=true then checkV x else default) !=0))<;>rfl)
 rw[h1,Aa];cases r<;>exact⟨_,rfl⟩
theorem Alx (l:List UInt8): ∃b,AJ l=some b:=by
 unfold AJ Bt;obtain⟨r,h1,h2⟩:=Ns (body:=AR l) l (λc=>(decide ((c.toNat:Int)<33))||(decide ((c.toNat:Int)>126))) () (λi=>(i:Int)) (λi x hx=>by
  unfold AR D3;rw[Cm hx,Aa,Bd,Aa];cases ((decide ((x.toNat:Int)<33))||(decide ((x.toNat:Int)>126)))<;>rfl)
 rw[h1,Aa];cases r<;>exact⟨_,rfl⟩
theorem keysB: ∀(l:List g_api_Key) (i s:Int),∃r,F6 A8 l i s=some r
 | [],i,s=>⟨_,rfl⟩
 |x::l,i,s=>by
  show∃r,Ab (A8 i x s) _=_;unfold A8;obtain⟨a,ha⟩:=OK (!(decide (x.Log<=s))) (o:=B0 x.Log) ⟨_,Ag1 _⟩;rw[ha,Aa];obtain⟨b,hb⟩:=OK (!((decide (x.Log<=s))||(!a))) (o:=B0 x.Delay) ⟨_,Ag1 _⟩;rw[hb,Aa];obtain⟨c,hc⟩:=OK (!(((decide (x.Log<=s))||(!a))||(!b))) (Ahh x.Key);rw[hc,Aa];split
  ·exact⟨_,rfl⟩
  ·exact keysB l (i+1) _
theorem AiZ (a:Am): ∃e,Cb a=some e:=by
 unfold Cb;split
 ·obtain⟨b,hb⟩:=OK (!((true||((a.Client.Roots.length:Int)==0))||(decide ((a.Client.Roots.length:Int)>8)))) (ZA a.Client.Roots);rw[hb,Aa];exact⟨_,AnT (by simp)⟩
 ·rename_i hw;have hl:a.Client.Who.data.toList.length<=64:=by
   rw[Aox,not_or]at hw;have h2:=hw.2;rw[AnV]at h2;have:a.Client.Who.size<=64:=by omega
   exact this
  rw[GY 1 (by simp only[Aob]; omega) (by simp only[Aob]; omega),Aa];obtain⟨b,hb⟩:=Alx ([]++a.Client.Who.data.toList);rw[hb,Aa];obtain⟨d,hd⟩:=OK (!((b||((a.Client.Roots.length:Int)==0))||(decide ((a.Client.Roots.length:Int)>8)))) (ZA a.Client.Roots);rw[hd,Aa];split
  ·exact⟨_,rfl⟩
  ·obtain⟨r,hr⟩:=keysB a.Client.Logs 0 (-1);rw[hr,Aa];cases r with
   |inr r=>exact⟨_,rfl⟩
   |inl y=>
    dsimp only;split<;>exact⟨_,rfl⟩
theorem Ak0 {z:Am}{e1 e2 e3:Int}(h1:Cb z=some e1)(h2:BN z=some e2)(h3:Cc z=some e3):
  Dc z=some (if e1≠0 then e1 else if e2≠0 then e2 else e3):=by
 unfold Dc;have b0:AE z 0 ()=some (if e1≠0 then .inr e1 else .inl ()):=by
  unfold AE;rw[AnT rfl,h1,Aa];by_cases h:e1=0
  ·rw[AnW (by simp[h]),AnW (λk=>k h)]
  ·rw[AnT (by simpa using h),AnT h]
 have b1:AE z 1 ()=some (if e2≠0 then .inr e2 else .inl ()):=by
  unfold AE;rw[AnW (by decide),AnT rfl,h2,Aa];by_cases h:e2=0
  ·rw[AnW (by simp[h]),AnW (λk=>k h)]
  ·rw[AnT (by simpa using h),AnT h]
 have b2:AE z 2 ()=some (if e3≠0 then .inr e3 else .inl ()):=by
  unfold AE;rw[AnW (by decide),AnW (by decide),h3,Aa];by_cases h:e3=0
  ·rw[AnW (by simp[h]),AnW (λk=>k h)]
  ·rw[AnT (by simpa using h),AnT h]
 show Ab (Ab (AE z 0 ()) _) _=_;rw[b0,Aa];by_cases q1:e1=0
 ·rw[AnW (λk=>k q1),AnW (λk=>k q1)];show Ab (Ab (AE z 1 ()) _) _=_;rw[b1,Aa];by_cases q2:e2=0
  ·rw[AnW (λk=>k q2),AnW (λk=>k q2)];show Ab (Ab (AE z 2 ()) _) _=_;rw[b2,Aa];by_cases q3:e3=0
   ·rw[AnW (λk=>k q3),q3]; rfl
   ·rw[AnT q3]; rfl
  ·rw[AnT q2,AnT q2]; rfl
 ·rw[AnT q1,AnT q1]; rfl
theorem O7 (c:g_api_Client): ∃e,m_client_Check c=some e:=by
 obtain⟨e1,h1⟩:=AiZ ⟨c⟩;obtain⟨e3,h3⟩:=Si c.Cascade;unfold m_client_Check;rw[Ak0 h1 (show BN ⟨c⟩=some (E2 c.Pool.L c.Logs)from by unfold BN; rw[U5]; rfl) (show Cc ⟨c⟩=some e3 from by unfold Cc; rw[h3]; rfl)];exact⟨_,rfl⟩
def mcV (leaf:UInt64×UInt64)(w:g_api_Place)(h:g_api_Head):Int:=(LD leaf w.At w.Size w.Proof h.Root).getD 1
def heldB (leaf:UInt64×UInt64)(w:g_api_Place)(h:g_api_Head):Bool:=((h.Log==w.Log)&&(h.Size==w.Size))&&(mcV leaf w h==0)
def showB (c:g_api_Client)(ps:List g_api_Promise)(leaf:UInt64×UInt64)(w:g_api_Place):Bool:=ps.any (λp=>p.Log==w.Log)&&c.Pool.L.any (heldB leaf w)
theorem ne0 {e:Int}(h:e≠0):(e !=0)=true:=by simpa using h
theorem enL {σ τ:Type}{body:Int->σ->Option (σ⊕τ)}{k:Nat}{i:Int}{s s':σ}(h:body i s=some (.inl s')):CE body (k+1) i s=CE body k (i+1) s':=by
 show Ab (body i s) _=_;rw[h]; rfl
theorem enR {σ τ:Type}{body:Int->σ->Option (σ⊕τ)}{k:Nat}{i:Int}{s:σ}{t:τ}(h:body i s=some (.inr t)):CE body (k+1) i s=some (.inr t):=by
 show Ab (body i s) _=_;rw[h]; rfl
structure Acc (c:g_api_Client)(o:g_api_Offer)(name:ByteArray)(now:Int):Prop where
 chk:m_client_Check c=some 0
 pth:m_path_Check c.Roots o.Path name now=some 0
 run: ∃x more leaf ps,o.Path=x::more/\m_cert_Leaf x=some (leaf,0)/\m_client_asked_counting ⟨c⟩ x.Proms leaf=some ps/\2<=ps.length/\o.Where.any (showB c ps leaf)=true/\m_cascade_Has c.Cascade x.Serial=some false
theorem Ab6 {i n:Nat}(h:i<n)(hn:n<=1000000):w64 ((i:Int)+1)=((i+1:Nat):Int):=by rw[A7 (by omega) (by omega)]; rfl
theorem TK {α:Type}{xs:List α}{i:Nat}{x:α}(h:xs[i]? =some x):xs.drop i=x::xs.drop (i+1):=by
 obtain⟨hi,rfl⟩:=An2.1 h;exact List.drop_eq_getElem_cons hi
def Anb {α β:Type}(f:α->Option β):List α->(Unit⊕β)
 | []=> .inl ()
 |x::r=>match f x with|some b=> .inr b|none=>Anb f r
theorem Z2 {α β:Type}{step:Int->Option (Int⊕(Unit⊕β))}(xs:List α)(f:α->Option β)
  (hs: ∀(i:Nat) (x:α),xs[i]? =some x->step (i:Int)=some (match f x with|some b=> .inr (.inr b)|none=> .inl ((i+1:Nat):Int)))
  (he:step (xs.length:Int)=some (.inr (.inl ()))): ∀(k i n:Nat),i+k=xs.length->k<n->iter step n (i:Int)=some (Anb f (xs.drop i))
 |0,i,n,h,hn=>by
  obtain⟨n,rfl⟩: ∃q,n=q+1:=⟨n-1,by omega⟩;have h:i=xs.length:=by omega
  subst h;show Ab (step _) _=_;rw[he,List.drop_length]; rfl
 |k+1,i,n,h,hn=>by
  obtain⟨n,rfl⟩: ∃q,n=q+1:=⟨n-1,by omega⟩;have hi:i<xs.length:=by omega
  have hx:xs[i]? =some xs[i]:=Aot hi;show Ab (step _) _=_;rw[hs i _ hx,TK hx];unfold Anb;cases f xs[i]with
  |some b=>rfl
  |none=>exact Z2 xs f hs he k (i+1) n (by omega) (by omega)
theorem Wy {α β:Type}{step:Int->Option (Int⊕(Unit⊕β))}(xs:List α)(f:α->Option β)(hl:xs.length<=1000000)
  (hs: ∀(i:Nat) (x:α),xs[i]? =some x->step (i:Int)=some (match f x with|some b=> .inr (.inr b)|none=> .inl ((i+1:Nat):Int)))
  (he:step (xs.length:Int)=some (.inr (.inl ()))):iter step AY 0=some (Anb f xs):=
 Z2 xs f hs he xs.length 0 AY (by omega) (by have:(1000001:Nat)<=AY:=An5 rfl; omega)
theorem AcW {α:Type}(p:α->Bool)(v:Bool): ∀(xs:List α),Anb (λx=>if p x=true then some v else none) xs=if xs.any p=true then .inr v else .inl ()
 | []=>rfl
 |x::r=>by
  unfold Anb;cases h:p x with
  |true=>simp[h]
  |false=>simp[h,AcW p v r]
theorem Aji {α:Type}{l:List α}{n i:Nat}{x:α}(h:(l.take n)[i]? =some x):idx l (i:Int)=some x/\i<l.length/\i<n:=by
 rw[List.getElem?_take]at h;split at h
 ·exact⟨Cm h,(An2.1 h).1,‹_›⟩
 ·cases h
def shop0:C9:=⟨⟨⟨#[97,110,110]⟩,[⟨0,⟨#[114]⟩,⟨#[114]⟩,544077478247279056,[],0,100,true,1,[],[],⟨56068977789539995,412945996197367095⟩⟩],[⟨0,1297896941320072711,5⟩,⟨1,1631945290827707310,5⟩],⟨[]⟩,⟨0,[]⟩,0⟩,⟨[⟨9,⟨#[114]⟩,⟨#[]⟩,4,[⟨#[120,46,97]⟩],3,8,false,0,[],[⟨0,3,(1621992312229970116,2200863675130382030),⟨493135561720501702,53138745142054843⟩⟩,⟨1,3,(1621992312229970116,2200863675130382030),⟨694227493511213294,984341331704138812⟩⟩],⟨1050415333436172978,246170491232933132⟩⟩],[⟨0,2,3,[(71937633796637552,541480457554953714)]⟩]⟩,[⟨0,492609940580054112,5,[⟨[0,5],1⟩,⟨[1,5],1⟩,⟨[48,32,2,1,9,12,1,114,12,0,2,1,4,48,5,12,3,120,46,97,2,1,3,2,1,8,1,1,0,2,1,0,48,0],3⟩],[],[]⟩,⟨1,821147353521346255,5,[⟨[48,32,2,1,9,12,1,114,12,0,2,1,4,48,5,12,3,120,46,97,2,1,3,2,1,8,1,1,0,2,1,0,48,0],3⟩],[],[]⟩]⟩
def head0:g_api_Head:=⟨0,3,(1111880991993255973,2159594700541934035),4,⟨52962187583479370,259454068761640249⟩⟩
def cli0:g_api_Client:=⟨⟨#[97,110,110]⟩,[⟨0,⟨#[114]⟩,⟨#[114]⟩,544077478247279056,[],0,100,true,1,[],[],⟨56068977789539995,412945996197367095⟩⟩],[⟨0,1297896941320072711,5⟩,⟨1,1631945290827707310,5⟩],⟨[⟨0,3,(1111880991993255973,2159594700541934035),4,⟨52962187583479370,259454068761640249⟩⟩]⟩,⟨0,[]⟩,0⟩
def cas0:g_api_Cascade:=⟨1,[⟨8,3,16,[98]⟩]⟩
def cli1:g_api_Client:=⟨⟨#[97,110,110]⟩,[⟨0,⟨#[114]⟩,⟨#[114]⟩,544077478247279056,[],0,100,true,1,[],[],⟨56068977789539995,412945996197367095⟩⟩],[⟨0,1297896941320072711,5⟩,⟨1,1631945290827707310,5⟩],⟨[⟨0,3,(1111880991993255973,2159594700541934035),4,⟨52962187583479370,259454068761640249⟩⟩]⟩,⟨1,[⟨8,3,16,[98]⟩]⟩,0⟩
theorem lvq0:LG 5 ⟨#[120,46,97]⟩ 2=some (shop0,true):=by kernel_rfl
theorem lvq1:(Ab (idx shop0.logs_ 0) λx=>Qi x 0 3 4)=some (head0,0):=by kernel_rfl
theorem lvq2:Gp shop0.c_ head0=some (cli0,0):=by kernel_rfl
theorem lvq3:(F0 ⟨#[]⟩ shop0.c_.Roots shop0.c_.Logs 0).map Prod.snd=some 1:=by kernel_rfl
theorem lvq4:IV [9] [] 1=some (cas0,0):=by kernel_rfl
theorem lvq5:D4 cli0 cas0=some (cli1,0):=by kernel_rfl
theorem lvq6:(D4 cli1 ⟨0,[]⟩).map Prod.snd=some 190:=by kernel_rfl
theorem lvq7:m_client_Check cli1=some 0:=by kernel_rfl
theorem lvq8:BD shop0.c_ shop0.o_ ⟨#[120,46,97]⟩ 4=some 240:=by kernel_rfl
theorem lvq9:BD cli0 shop0.o_ ⟨#[120,46,97]⟩ 4=some 0:=by kernel_rfl
theorem lvqa:BD cli0 shop0.o_ ⟨#[121,46,97]⟩ 4=some 110:=by kernel_rfl
theorem lvqb:BD cli0 shop0.o_ ⟨#[120,46,97]⟩ 8=some 190:=by kernel_rfl
theorem lvqc:BD cli1 shop0.o_ ⟨#[120,46,97]⟩ 4=some 270:=by kernel_rfl
theorem AbB:Lk=some true:=by
 unfold Lk;rw[lvq0,Aa,AnW (by decide)];obtain⟨x,hx,h1⟩:=Ag lvq1;obtain⟨⟨z3,e3⟩,h3,rfl⟩:=AnZ.1 lvq3;obtain⟨⟨z6,e6⟩,h6,rfl⟩:=AnZ.1 lvq6;dsimp only;rw[hx,Aa,h1,Aa];dsimp only;rw[lvq2,Aa];dsimp only;rw[h3,Aa,lvq4,Aa];dsimp only;rw[lvq5,Aa];dsimp only;rw[h6,Aa,lvq7,lvq8,lvq9,lvqa,lvqb,lvqc];rfl
theorem Rt {α:Type}{step:Int->Option (Int⊕(Unit⊕Bool))}(xs:List α)(n:Nat)(hn:n<=1000)(p:α->Bool)(hs: ∀(i:Nat) (x:α),xs[i]? =some x->i<n->step (i:Int)=some (if p x=true then .inr (.inr false)else .inl ((i+1:Nat):Int)))
  (he: ∀i:Nat,¬(i<xs.length/\i<n)->step (i:Int)=some (.inr (.inl ()))):iter step AY 0=some (if(xs.take n).any p=true then .inr false else .inl ()):=by
 rw[Wy (xs.take n) (λx=>if p x=true then some false else none) (by simp; omega) (λi x hx=> ?_) ?_,AcW]
 ·exact he _ (by simp; omega)
 ·obtain⟨h1,h2,h3⟩:=Aji hx;have hx':xs[i]? =some x:=by
   rw[List.getElem?_take,AnT h3]at hx;exact hx
  rw[hs i x hx' h3];cases p x<;>rfl
def AgK (c:g_api_Cert):Bool:= !(c.Names.take 12).any (λs=>decide ((s.size:Int)>200))&&(!(c.Permit.take 12).any (λs=>decide ((s.size:Int)>200))&&(((((decide ((c.Names.length:Int)<=12))&&(decide ((c.Permit.length:Int)<=12)))&&(decide ((c.Proms.length:Int)<=8)))&&(decide ((c.Issuer.size:Int)<=200)))&&(decide ((c.Subject.size:Int)<=200))))
theorem AjE (c:g_api_Cert):HT c=some (AgK c):=by
 unfold HT AgK;rw[Rt (step:=Fu c) c.Names 12 (by omega) (λs=>decide ((s.size:Int)>200)) (λi x hx hi=> ?_) (λi hi=> ?_),Aa]
 ·cases (c.Names.take 12).any λs=>decide ((s.size:Int)>200)with
  |true=>rfl
  |false=>
   rw[AnW (by decide)];dsimp only;rw[Rt (step:=Ft c) c.Permit 12 (by omega) (λs=>decide ((s.size:Int)>200)) (λi x hx hi=> ?_) (λi hi=> ?_),Aa]
   ·cases (c.Permit.take 12).any λs=>decide ((s.size:Int)>200)<;>rfl
   ·have h2:=(An2.1 hx).1;unfold Ft;rw[AnT (by simp; omega),Cm hx,Aa];cases decide ((x.size:Int)>200)with
    |true=>rfl
    |false=>rw[AnW (by decide),AnW (by decide),A7 (by omega) (by omega)]; rfl
   ·unfold Ft;rw[AnW (by simp; omega)]
 ·have h2:=(An2.1 hx).1;unfold Fu;rw[AnT (by simp; omega),Cm hx,Aa];cases decide ((x.size:Int)>200)with
  |true=>rfl
  |false=>rw[AnW (by decide),AnW (by decide),A7 (by omega) (by omega)]; rfl
 ·unfold Fu;rw[AnW (by simp; omega)]
def Ak1 (l:List g_api_Cert):Bool:= !(l.take 12).any (λc=> !AgK c)&&decide ((l.length:Int)<=10)
theorem Anl (l:List g_api_Cert):G3 l=some (Ak1 l):=by
 unfold G3 Ak1;rw[Rt (step:=EP l) l 12 (by omega) (λc=> !AgK c) (λi x hx hi=> ?_) (λi hi=> ?_),Aa]
 ·cases (l.take 12).any λc=> !AgK c<;>rfl
 ·have h2:=(An2.1 hx).1;unfold EP;rw[AnT (by simp; omega),Cm hx,Aa,AjE,Aa];cases AgK x with
  |false=>rfl
  |true=>rw[AnW (by decide),AnW (by decide),A7 (by omega) (by omega)]; rfl
 ·unfold EP;rw[AnW (by simp; omega)]
theorem Ank {l:List g_api_Cert}(h:Ak1 l=true):l.length<=10/\∀c∈l,AgK c=true:=by
 simp only[Ak1,AnP,AnV,Bool.not_eq_true',List.any_eq_false]at h;have hl:l.length<=10:=by omega
 refine⟨hl,λc hc=> ?_⟩;have:=h.1 c (by rw[Aow (by omega)]; exact hc);simpa using this
def AjD (x:g_api_Cascade):Bool:= !(x.Levels.take 20).any (λs=>decide ((s.B.length:Int)>300))&&decide ((x.Levels.length:Int)<=18)
theorem AgJ (x:g_api_Cascade):DU x=some (AjD x):=by
 unfold DU AjD;rw[Rt (step:=DT x) x.Levels 20 (by omega) (λs=>decide ((s.B.length:Int)>300)) (λi y hx hi=> ?_) (λi hi=> ?_),Aa]
 ·cases (x.Levels.take 20).any λs=>decide ((s.B.length:Int)>300)<;>rfl
 ·have h2:=(An2.1 hx).1;unfold DT;rw[AnT (by simp; omega),Cm hx,Aa];cases decide ((y.B.length:Int)>300)with
  |true=>rfl
  |false=>rw[AnW (by decide),AnW (by decide),A7 (by omega) (by omega)]; rfl
 ·unfold DT;rw[AnW (by simp; omega)]
theorem AjF (c:g_api_Client): ∃b,MS c=some b/\(b=true->Ak1 c.Roots=true/\c.Logs.length<=20/\c.Pool.L.length<=40/\AjD c.Cascade=true):=by
 unfold MS;rw[Anl,AgJ];cases h1:decide ((c.Who.size:Int)<=100)with
 |false=>exact⟨false,rfl,λh=>by cases h⟩
 |true=>
  rw[show gu true (some (Ak1 c.Roots))=some (Ak1 c.Roots)from rfl,Aa];cases h2:Ak1 c.Roots with
  |false=>exact⟨false,rfl,λh=>by cases h⟩
  |true=>
   cases h3:decide ((c.Logs.length:Int)<=20)with
   |false=>exact⟨false,rfl,λh=>by cases h⟩
   |true=>
    cases h4:decide ((c.Pool.L.length:Int)<=40)with
    |false=>exact⟨false,rfl,λh=>by cases h⟩
    |true=>
     refine⟨AjD c.Cascade,rfl,λh=>⟨rfl,?_,?_,h⟩⟩
     ·have:=AoN h3; omega
     ·have:=AoN h4; omega
theorem AnM {l:List g_api_Head}{h:g_api_Head}{ks:List g_api_Key}(e:(TO l h ks).2=0):E2 (TO l h ks).1 ks=0/\hasH (TO l h ks).1 h/\(∀x∈l,x∈(TO l h ks).1)/\l.length<=(TO l h ks).1.length/\(TO l h ks).1.length<=1024:=by
 by_cases hc:E2 l ks=0
 ·obtain⟨h1,h2,h3⟩:=TM.1 hc;by_cases hr:I5 h ks=true
  ·by_cases hb:AhN l h=true
   ·have hA:TO l h ks=(l,0):=by unfold TO; rw[AnT hc,AnT hr,AnT hb]
    rw[hA];exact⟨hc,Ym.1 hb,λ_ q=>q,AnX _,h1⟩
   ·by_cases hl:l.length<1024
    ·have hA:TO l h ks=(PG l h,0):=by unfold TO; rw[AnT hc,AnT hr,AnW hb,AnT hl]
     rw[hA];refine⟨TM.2 ⟨by rw[Ty]; omega,Ab4 h2 (λq=>hb (Ym.2 q)),λx hx=> ?_⟩,Ajn (Qv.2 (.inl rfl)),λx q=>Qv.2 (.inr q),by rw[Ty]; omega,by rw[Ty]; omega⟩;rcases Qv.1 hx with q|q
     ·rw[q]; exact hr
     ·exact h3 x q
    ·have hA:TO l h ks=([],2):=by unfold TO; rw[AnT hc,AnT hr,AnW hb,AnW hl]
     rw[hA]at e; cases e
  ·have hA:TO l h ks=([],40):=by unfold TO; rw[AnT hc,AnW hr]
   rw[hA]at e; cases e
 ·have hA:TO l h ks=([],E2 l ks):=by unfold TO; rw[AnW hc]
  rw[hA]at e; exact absurd e hc
theorem Aag {α β:Type}: ∀(xs:List α),Anb (λ_=>(none:Option β)) xs= .inl ()
 | []=>rfl
 |_::r=>Aag r
theorem QX {α:Type}{step:Int->Option (Int⊕(Unit⊕Bool))}(xs:List α)(hl:xs.length<=1000000)
  (hs: ∀(i:Nat) (x:α),xs[i]? =some x->step (i:Int)=some (.inl (w64 ((i:Int)+1)))) (he:step (xs.length:Int)=some (.inr (.inl ()))):iter step AY 0=some (.inl ()):=by
 rw[Wy xs (λ_=>(none:Option Bool)) hl (λi x hx=> ?_) he,Aag];rw[hs i x hx,Ab6 (An2.1 hx).1 hl]
theorem UZ {α:Type}{xs:List α}{i:Nat}{x:α}(h:xs[i]? =some x):decide ((i:Int)<(xs.length:Int))=true:=An1 (by have:=(An2.1 h).1; omega)
theorem P8 {α:Type}{xs:List α}: ¬decide ((xs.length:Int)<(xs.length:Int))=true:=λh=>by have:=AoN h; omega
theorem nbne (n:Int): ¬(n !=n)=true:=by simp
theorem Ak3 (x:ByteArray):eqS x x=true:=Jx.2 rfl
theorem eqH_me (h:g_api_Head):Nq h h=true:=by simp[Nq,Gr,Nr]
theorem Ad0 (l:List g_api_Head)(hl:l.length<=1000000):JJ l l=some true:=by
 have e:iter (G2 l l) AY 0=some (.inl ()):=QX l hl (λi x hx=>by
  unfold G2;rw[AnT (UZ hx),Cm hx,Aa,Aa,eqH_me,AnW (by decide)]) (by
  unfold G2;rw[AnW P8])
 unfold JJ;rw[AnW (nbne _),e,Aa]
theorem AjY (x:g_api_Cascade)(hl:x.Levels.length<=1000000):Lf x x=some true:=by
 have e:iter (H0 x x) AY 0=some (.inl ()):=QX x.Levels hl (λi y hx=>by
  unfold H0 MX;rw[AnT (UZ hx),Cm hx,Aa,Aa,Ak3,show(((y.Bits !=y.Bits)||(y.Hashes !=y.Hashes))||(y.Salt !=y.Salt))=false from by simp];rfl) (by
  unfold H0;rw[AnW P8])
 unfold Lf;rw[AnW (by simp),e,Aa]
theorem Ahe {c:g_api_Cert}(h:AgK c=true):Dr c c=some true:=by
 have hp:c.Names.length<=12/\c.Permit.length<=12/\c.Proms.length<=8:=by
  simp only[AgK,AnP,AnV]at h;omega
 obtain⟨r,h1,h2⟩:=AdC (a:=c) (b:=c) (by omega);rw[h1,h2.2 rfl]
theorem MJ (c:g_api_Client)(h1: ∀x∈c.Roots,Dr x x=some true)(h2:c.Roots.length<=1000000)(h3:c.Logs.length<=1000000)(h4:c.Pool.L.length<=1000000)(h5:c.Cascade.Levels.length<=1000000):BR c c=some true:=by
 have e1:iter (HS c c) AY 0=some (.inl ()):=QX c.Roots h2 (λi x hx=>by
  unfold HS;rw[AnT (UZ hx),Cm hx,Aa,Aa,h1 x (Aoh hx),Aa,AnW (by decide)]) (by
  unfold HS;rw[AnW P8])
 have e2:iter (HR c c) AY 0=some (.inl ()):=QX c.Logs h3 (λi x hx=>by
  unfold HR;rw[AnT (UZ hx),Cm hx,Aa,Aa,show O5 x x=true from by simp[O5],AnW (by decide)]) (by
  unfold HR;rw[AnW P8])
 unfold BR;rw[Ad0 _ h4,AjY _ h5,show(((!eqS c.Who c.Who)||((c.Roots.length:Int) !=(c.Roots.length:Int)))||((c.Logs.length:Int) !=(c.Logs.length:Int)))=false from by rw[Ak3]; simp];show Ab (some true) _=_;rw[Aa,show(((false|| !true))||(c.View !=c.View))=false from by simp];show Ab (some true) _=_;rw[Aa,AnW (by decide),e1,Aa];dsimp only;rw[e2,Aa]
def fSt (c:g_api_Client)(x:g_api_Cascade):ByteArray×(List g_api_Cert)×(List g_api_Key)×(List g_api_Head)×Int×(List g_api_Sieve)×Int×Int×(List g_api_Sieve):=(c.Who,c.Roots,c.Logs,c.Pool.L,c.Cascade.Day,c.Cascade.Levels,c.View,x.Day,x.Levels)
theorem dy0 {c:g_api_Client}{x:g_api_Cascade}{e:Int}(h:m_client_Check c=some e):(e=0->AG 0 (fSt c x)=some (.inl (fSt c x)))/\(e≠0->∃t,AG 0 (fSt c x)=some (.inr (e,t))):=by
 unfold AG;rw[AnT rfl];have q:Ff c=some (e,c):=by unfold Ff; rw[h]; rfl
 refine⟨λh0=> ?_,λh0=> ?_⟩
 ·show Ab (Ff c) _=_;rw[q,Aa,h0]; rfl
 ·show∃t,Ab (Ff c) _=_;rw[q,Aa,AnT (ne0 h0)];exact⟨_,rfl⟩
theorem dy1 {c:g_api_Client}{x:g_api_Cascade}{e:Int}(h:B2 x=some e):(e=0->AG 1 (fSt c x)=some (.inl (fSt c x)))/\(e≠0->∃t,AG 1 (fSt c x)=some (.inr (e,t))):=by
 unfold AG;rw[AnW (by decide)];have q:Fe x=some (e,x):=by unfold Fe; rw[h]; rfl
 refine⟨λh0=> ?_,λh0=> ?_⟩
 ·show Ab (Fe x) _=_;rw[q,Aa,h0]; rfl
 ·show∃t,Ab (Fe x) _=_;rw[q,Aa,AnT (ne0 h0)];exact⟨_,rfl⟩
def zCli:g_api_Client:=⟨ByteArray.empty,[],[],(⟨[]⟩:g_api_Pool),(⟨0,[]⟩:g_api_Cascade),0⟩
theorem Ans {c:g_api_Client}{x:g_api_Cascade}{e f:Int}(h:m_client_Check c=some e)(k:B2 x=some f):
  D4 c x=some (if e≠0 then(zCli,e)else if f≠0 then(zCli,f)else if x.Day<c.Cascade.Day then(zCli,190)else(⟨c.Who,c.Roots,c.Logs,c.Pool,x,c.View⟩,0)):=by
 unfold D4 FZ;show Ab (Ab (CE AG 2 0 (fSt c x)) _) _=_;by_cases h0:e=0
 ·have r0:=(dy0 (x:=x) h).1 h0;rw[AnW (λq=>q h0)];by_cases k0:f=0
  ·have r1:=(dy1 (c:=c) k).1 k0;rw[AnW (λq=>q k0),show CE AG 2 0 (fSt c x)=some (.inl (fSt c x))from(enL r0).trans (enL r1),Aa];show Ab (some (0,c,x)) _=_;rw[Aa];dsimp only;rw[AnW (by decide),Bd];by_cases hd:x.Day<c.Cascade.Day
   ·rw[AnT (An1 hd),AnT hd]; rfl
   ·rw[AnW (λq=>hd (AoN q)),AnW hd]
  ·obtain⟨t,r1⟩:=(dy1 (c:=c) k).2 k0;rw[AnT k0,show CE AG 2 0 (fSt c x)=some (.inr (f,t))from(enL r0).trans (enR r1),Aa];show Ab (some (f,t)) _=_;rw[Aa,AnT (ne0 k0)]; rfl
 ·obtain⟨t,r0⟩:=(dy0 (x:=x) h).2 h0;rw[AnT h0,show CE AG 2 0 (fSt c x)=some (.inr (e,t))from enR r0,Aa];show Ab (some (e,t)) _=_;rw[Aa,AnT (ne0 h0)]; rfl
theorem UC (h:g_api_Head){ks:List g_api_Key}(hn:ks.length<=1099511627776):HV h ks=some (I5 h ks):=by
 have hit:=Z1 (step:=G5 h ks) (l:=ks) (λk:g_api_Key=>k.Log==h.Log) (λi=>match ks[i]? with|some k=>chd k h==0|none=>false) hn 0 (λi hi _=> ?_) (λi hi _=> ?_) ks 0 AY (AnX _) rfl (by unfold AY; omega)
 ·unfold HV I5;rw[show((0:Nat):Int)=0 from rfl]at hit;rw[hit,Aa];cases hf:fnd (λk:g_api_Key=>k.Log==h.Log) ks 0 with
  |none=>rfl
  |some q=>
   obtain⟨k,k1,k2,_⟩:=Yq hf;obtain⟨j,x⟩:=q;have hq:j=k:=by dsimp only at k1; omega
   subst hq;dsimp only at k2⊢;rw[k2]
 ·unfold G5;rw[AnT (by simpa using hi),Jw hi,Aa,Aa,Ahb,Alb,Aa,Aot hi];cases ks[i].Log==h.Log<;>rfl
 ·unfold G5;rw[AnW (by simp; omega)]
theorem UD (p:g_api_Pool){ks:List g_api_Key}(hn:ks.length<=1099511627776):HX p ks=some (E2 p.L ks):=by
 unfold HX E2;by_cases h:p.L.length>1024
 ·rw[AnT (by simp; omega),AnT h]
 ·have hit:=Z0 (step:=G6 p ks) p.L (λx=>I5 x ks) (bad:=40) (by omega) (λi hi=> ?_) ?_
  ·rw[AnW (by simp; omega),AnW h,AdY (by omega),Aa];cases chB p.L
   ·rfl
   ·simp only[AoI,Bool.false_eq_true,if_false,if_true,hit,Aa];unfold P3;cases p.L.all λx=>I5 x ks<;>rfl
  ·unfold G6;rw[AnT (by simpa using hi),Jw hi,Aa,UC _ hn,Aa];cases I5 p.L[i] ks<;>rfl
  ·unfold G6; rw[AnW (by simp)]
theorem AfB (p:g_api_Pool)(h:g_api_Head){ks:List g_api_Key}(hn:ks.length<=1099511627776):MV p h ks=some (⟨(TO p.L h ks).1⟩,(TO p.L h ks).2):=by
 unfold MV TO;rw[UD _ hn,Aa];by_cases hc:E2 p.L ks=0
 ·obtain⟨h1,h2,h3⟩:=TM.1 hc;rw[AnW (by simp[hc]),AnT hc,UC _ hn,Aa];cases I5 h ks
  ·rfl
  ·simp only[AoI,Bool.false_eq_true,if_false,if_true,AmY h (show p.L.length<=1099511627776 by omega),Aa];cases AhN p.L h
   ·simp only[Bool.false_eq_true,if_false];by_cases hl:p.L.length<1024
    ·rw[AnW (by simp; omega),AnT hl,AdM _ (by omega),Aa]
    ·rw[AnT (by simp; omega),AnW hl]
   ·rfl
 ·rw[AnT (by simpa using hc),AnW hc]
def VU {α β:Type}(f:Nat->α->Option β):List α->Nat->Unit⊕β
 | [],_=> .inl ()
 |x::r,i=>match f i x with|some b=> .inr b|none=>VU f r (i+1)
theorem Wx {α β:Type}{step:Int->Option (Int⊕(Unit⊕β))}(xs:List α)(f:Nat->α->Option β)
  (hs: ∀(i:Nat) (x:α),xs[i]? =some x->step (i:Int)=some (match f i x with|some b=> .inr (.inr b)|none=> .inl ((i+1:Nat):Int)))
  (he:step (xs.length:Int)=some (.inr (.inl ()))): ∀(k i n:Nat),i+k=xs.length->k<n->iter step n (i:Int)=some (VU f (xs.drop i) i)
 |0,i,n,h,hn=>by
  obtain⟨n,rfl⟩: ∃q,n=q+1:=⟨n-1,by omega⟩;have h:i=xs.length:=by omega
  subst h;show Ab (step _) _=_;rw[he,List.drop_length]; rfl
 |k+1,i,n,h,hn=>by
  obtain⟨n,rfl⟩: ∃q,n=q+1:=⟨n-1,by omega⟩;have hi:i<xs.length:=by omega
  have hx:xs[i]? =some xs[i]:=Aot hi;show Ab (step _) _=_;rw[hs i _ hx,TK hx];unfold VU;cases f i xs[i]with
  |some b=>rfl
  |none=>exact Wx xs f hs he k (i+1) n (by omega) (by omega)
theorem U3 {α β:Type}{step:Int->Option (Int⊕(Unit⊕β))}(xs:List α)(f:Nat->α->Option β)(hl:xs.length<=1000000)
  (hs: ∀(i:Nat) (x:α),xs[i]? =some x->step (i:Int)=some (match f i x with|some b=> .inr (.inr b)|none=> .inl ((i+1:Nat):Int)))
  (he:step (xs.length:Int)=some (.inr (.inl ()))):iter step AY 0=some (VU f xs 0):=
 Wx xs f hs he xs.length 0 AY (by omega) (by have:(1000001:Nat)<=AY:=An5 rfl; omega)
theorem WE {α β:Type}{body:Int->Unit->Option (Unit⊕β)}(xs:List α)(f:Nat->α->Option β)
  (hs: ∀(i:Nat) (x:α),xs[i]? =some x->body (i:Int) ()=some (match f i x with|some b=> .inr b|none=> .inl ())): ∀(k i:Nat),i+k=xs.length->CE body k (i:Int) ()=some (VU f (xs.drop i) i)
 |0,i,h=>by
  have h:i=xs.length:=by omega
  subst h;rw[List.drop_length]; rfl
 |k+1,i,h=>by
  have hi:i<xs.length:=by omega
  have hx:xs[i]? =some xs[i]:=Aot hi;show Ab (body _ _) _=_;rw[hs i _ hx,TK hx];unfold VU;cases f i xs[i]with
  |some b=>rfl
  |none=>exact WE xs f hs k (i+1) (by omega)
theorem Aah {α β:Type}(p:α->Bool)(v:β): ∀(xs:List α) (i:Nat),VU (λ_ x=>if p x=true then some v else none) xs i=if xs.any p=true then .inr v else .inl ()
 | [],_=>rfl
 |x::r,i=>by
  unfold VU;cases h:p x with
  |true=>simp[h]
  |false=>simp[h,Aah p v r]
theorem tmod8 {n:Int}(h0:8<=n)(h1:n<=8192):((Int.tmod n 8) !=0)=(KV n 7 !=0)/\w64 (Int.tdiv n 8)=A9 n 3:=by
 obtain⟨m,rfl⟩: ∃m:Nat,n=(m:Int):=⟨n.toNat,by omega⟩;rw[and7 (by omega),shr3];refine⟨rfl,?_⟩;show w64 ((m/8:Nat):Int)=_;rw[A7 (by omega) (by omega)]
theorem Afp (n:Int):MY n=some (decide (0<=n)&&decide (n<=1099511627776)):=rfl
theorem AeZ (s:g_api_Sieve):JP s=Dl s:=by
 unfold JP Dl;by_cases h1:s.Bits<8
 ·rw[An1 h1]; rfl
 ·rw[An7 h1];by_cases h2:s.Bits>8192
  ·rw[An1 h2]; rfl
  ·rw[An7 h2];obtain⟨e1,e2⟩:=tmod8 (n:=s.Bits) (by omega) (by omega);rw[e1,e2];cases KV s.Bits 7 !=0 with
   |true=>rfl
   |false=>
    cases decide (s.Hashes<1)with
    |true=>rfl
    |false=>
     cases decide (s.Hashes>8)with
     |true=>rfl
     |false=>
      rw[Afp,ZD];cases (decide (0<=s.Salt)&&decide (s.Salt<=1099511627776))with
      |false=>rfl
      |true=>
       rfl
def sckV (s:g_api_Sieve):Int:=(Dl s).getD 1
theorem Akl (s:g_api_Sieve):Dl s=some (sckV s):=by
 obtain⟨e,he,_⟩:=Zv s;unfold sckV; rw[he]; rfl
def lvlF (day:Int)(i:Nat)(s:g_api_Sieve):Option Int:=if((s.Hashes !=3)||(s.Salt !=w64 (w64 (16*day)+(i:Int))))||(sckV s !=0)then some 1 else none
theorem Aje (n:Int):JO n=Ew n:=by
 unfold JO Ew IU;rw[Bd,Bd,Aa,Bd];congr 1;rw[Aoq];simp only[AnP,AnV];omega
theorem Adg (c:g_api_Cascade):H2 c=B2 c:=by
 unfold H2 B2;by_cases h:(c.Levels.length:Int)>16
 ·rw[AnT (An1 h),AnT (An1 h)]
 ·rw[AnW (λq=>h (AoN q)),AnW (λq=>h (AoN q)),Aje];have e1:iter (G7 c) AY 0=some (VU (lvlF c.Day) c.Levels 0):=U3 c.Levels _ (by omega) (λi x hx=>by
   unfold G7 lvlF;rw[AnT (UZ hx),Cm hx,Aa,AeZ,Akl,Aa,Ab6 (An2.1 hx).1 (by omega)];cases (sckV x !=0)<;>cases (x.Hashes !=3)<;>cases (x.Salt !=w64 (w64 (16*c.Day)+(i:Int)))<;>rfl) (by
   unfold G7;rw[AnW P8])
  have e2:CE (CD c) c.Levels.length 0 ()=some (VU (lvlF c.Day) c.Levels 0):=WE c.Levels _ (λi x hx=>by
   unfold CD lvlF GX;rw[Cm hx,Aa,Akl];cases (x.Hashes !=3)with
   |true=>
    show Ab (some _) _=_;rw[Aa];show Ab (some _) _=_;rw[Aa];rfl
   |false=>
    rw[show(!false)=true from rfl,Am1,Aa];cases (x.Salt !=w64 (w64 (16*c.Day)+(i:Int)))with
    |true=>
     show Ab (some _) _=_;rw[Aa];rfl
    |false=>
     rw[show(!(false||false))=true from rfl,Am1,Aa];cases (sckV x !=0)<;>rfl) c.Levels.length 0 (by omega)
  rw[e1,e2];rfl
def AiG (c:UInt8):Bool:=(decide ((c.toNat:Int)<33))||(decide ((c.toNat:Int)>126))
def whoB (s:ByteArray):Bool:= !((eqS s (⟨#[]⟩:ByteArray))||(decide ((s.size:Int)>64)))&& !(s.data.toList.any AiG)
theorem Aly (l:List UInt8):AJ l=some (l.any AiG):=by
 unfold AJ Bt;obtain⟨r,h1,h2⟩:=Ns (body:=AR l) l AiG () (λi=>(i:Int)) (λi x hx=>by
  unfold AR D3 AiG;rw[Cm hx,Aa,Bd,Aa];cases ((decide ((x.toNat:Int)<33))||(decide ((x.toNat:Int)>126)))<;>rfl)
 rw[h1,Aa];rcases h2 with ⟨j,k,q1,q2,rfl⟩|⟨q,rfl⟩
 ·rw[Aln q1 q2];dsimp only;rw[Aa,ge0]
 ·rw[q]; rfl
theorem Aid (s:ByteArray):s.data.toList.length=s.size:=rfl
theorem Ac3 {s:ByteArray}:eqS s ⟨#[]⟩=true↔s.size=0:=by
 rw[Jx];constructor
 ·rintro rfl; rfl
 ·intro h;obtain⟨⟨l⟩⟩:=s;have:l.length=0:=h;rw[List.eq_nil_of_length_eq_zero this]
theorem AiE (s:ByteArray):JI s=some (whoB s):=by
 unfold JI;rw[Rt (step:=G1 s) s.data.toList 65 (by omega) AiG (λi x hx hi=> ?_) (λi hi=> ?_),Aa]
 ·unfold whoB;by_cases hz:1<=s.size/\s.size<=64
  ·have he:eqS s ⟨#[]⟩=false:=by
    cases h:eqS s ⟨#[]⟩with
    |false=>rfl
    |true=>have:=Ac3.1 h; omega
   rw[Aow (by rw[Aid]; omega),he,An7 (show¬(s.size:Int)>64 by omega)];cases s.data.toList.any AiG with
   |true=>rfl
   |false=>
    rw[AnW (by decide)];show Ab (some _) _=_;rw[Aa,An1 (show(s.size:Int)>=1 by omega),An1 (show(s.size:Int)<=64 by omega)];rfl
  ·have he:((eqS s (⟨#[]⟩:ByteArray))||(decide ((s.size:Int)>64)))=true:=by
    rw[Aox,Ac3,AnV]; omega
   rw[he];cases (s.data.toList.take 65).any AiG with
   |true=>rfl
   |false=>
    rw[AnW (by decide)];show some _=_;congr 1;rw[AoI,AoD,Bool.and_eq_false_iff,decide_eq_false_iff_not,decide_eq_false_iff_not];omega
 ·have h2:=(An2.1 hx).1;rw[Aid]at h2;unfold G1 AiG;rw[AnT (by simp; omega),Cm hx,Aa,A7 (by omega) (by omega)];cases decide ((x.toNat:Int)<33)with
  |true=>rfl
  |false=>
   show Ab (some x) _=_;rw[Aa];cases decide ((x.toNat:Int)>126)<;>rfl
 ·unfold G1;rw[AnW (by rw[Aid]at hi; simp; omega)]
def inB (k:UInt64):Bool:=(Dy k).getD false
theorem AkQ (k:UInt64):Dy k=some (inB k):=by
 obtain⟨b,hb⟩:=Ahh k;unfold inB; rw[hb]; rfl
theorem in03K (k:UInt64):IE k=some (inB k):=by
 rw[<-AkQ];unfold IE Dy;rw[O1 _ _ (by decide) (by decide),ZG]
def AdS (n:Int):Bool:=decide (0<=n)&&decide (n<=1099511627776)
theorem AcH (n:Int):IL n=some (AdS n):=rfl
theorem Ada (n:Int):B0 n=some (AdS n):=rfl
def AkI (s:Int)(k:g_api_Key):Bool:=(!decide (k.Log<=s))&&(AdS k.Log&&(AdS k.Delay&&inB k.Key))
def NJ:Int->List g_api_Key->Bool
 |_,[]=>true
 |s,k::l=>AkI s k&&NJ k.Log l
theorem AcR: ∀(l:List g_api_Key) (i s:Int),∃r,F6 A8 l i s=some r/\(if NJ s l=true then∃y,r= .inl y else r= .inr 1)
 | [],i,s=>⟨_,rfl,_,rfl⟩
 |x::l,i,s=>by
  have hb:A8 i x s=some (if AkI s x=true then .inl x.Log else .inr 1):=by
   unfold A8 AkI;rw[Ada,Ada,AkQ];cases decide (x.Log<=s)<;>cases AdS x.Log<;>cases AdS x.Delay<;>cases inB x.Key<;>rfl
  show∃r,Ab (A8 i x s) _=_/\_;unfold NJ;rw[hb];cases AkI s x with
  |false=>exact⟨_,rfl,rfl⟩
  |true=>exact AcR l (i+1) x.Log
theorem Ww (c:g_api_Client)(hl:c.Logs.length<=1000000): ∀(k i n:Nat) (s:Int),i+k=c.Logs.length->k<n->(i=0->s= -1)->(∀p,0<i->c.Logs[i-1]? =some p->s=p.Log)->
  iter (CK c) n (i:Int)=some (if NJ s (c.Logs.drop i)=true then .inl ()else .inr 1)
 |0,i,n,s,h,hn,h0,h1=>by
  obtain⟨n,rfl⟩: ∃q,n=q+1:=⟨n-1,by omega⟩;have h:i=c.Logs.length:=by omega
  subst h;show Ab (CK c _) _=_;unfold CK;rw[AnW P8,List.drop_length]; rfl
 |k+1,i,n,s,h,hn,h0,h1=>by
  obtain⟨n,rfl⟩: ∃q,n=q+1:=⟨n-1,by omega⟩;have hi:i<c.Logs.length:=by omega
  have hx:c.Logs[i]? =some c.Logs[i]:=Aot hi;have hb:CK c (i:Int)=some (if AkI s c.Logs[i]=true then .inl ((i+1:Nat):Int)else .inr (.inr 1)):=by
   unfold CK;rw[AnT (UZ hx),Cm hx,Aa,AcH,AcH,in03K,Aa,Ab6 hi hl];generalize hk:c.Logs[i]=y;by_cases z:i=0
   ·subst z;rw[h0 rfl,show decide (((0:Nat):Int)>0)=false from rfl];unfold AkI;have:AdS y.Log=true->decide (y.Log<= -1)=false:=λq=>by
     unfold AdS at q;rw[AnP,AnV]at q;exact An7 (by omega)
    cases hn:AdS y.Log with
    |false=>cases decide (y.Log<= -1)<;>rfl
    |true=>
     rw[this hn];cases AdS y.Delay<;>cases inB y.Key<;>rfl
   ·obtain⟨p,hp⟩: ∃p,c.Logs[i-1]? =some p:=⟨_,Aot (by omega)⟩;rw[h1 p (by omega) hp,show w64 ((i:Int)-1)=((i-1:Nat):Int)from by rw[A7 (by omega) (by omega)]; omega,Cm hp,An1 (show(i:Int)>0 by omega)];unfold AkI;cases AdS y.Log with
    |false=>cases decide (y.Log<=p.Log)<;>cases AdS y.Delay<;>cases inB y.Key<;>rfl
    |true=>
     rw[show gu ((!(!true))&&true) (some p)=some p from rfl,Aa,show decide (p.Log>=y.Log)=decide (y.Log<=p.Log)from rfl];cases decide (y.Log<=p.Log)<;>cases AdS y.Delay<;>cases inB y.Key<;>rfl
  show Ab (CK c _) _=_;rw[hb,TK hx];unfold NJ;cases AkI s c.Logs[i]with
  |false=>rfl
  |true=>
   rw[AnT rfl,Aof];exact Ww c hl k (i+1) n c.Logs[i].Log (by omega) (by omega) (by omega) (λp _ hp=>by
    rw[show i+1-1=i from rfl,hx]at hp;cases hp; rfl)
def Tt (c:g_api_Cert):Bool:=(!c.Ca)||((if c.Ca=true then checkV c else default) !=0)
theorem AnJ (l:List g_api_Cert):Ar l=some (l.any Tt):=by
 unfold Ar AU;obtain⟨r,h1,h2⟩:=Ns (body:=AI l) l Tt () (λi=>(i:Int)) (λi x hx=>by
  unfold AI D2 Tt;rw[Cm hx,Aa];have:gu (!(!x.Ca)) (Ci x)=some (if x.Ca=true then checkV x else default):=by
   rw[Aav]; cases x.Ca<;>rfl
  rw[this,Aa,Aa];cases ((!x.Ca)||((if x.Ca=true then checkV x else default) !=0))<;>rfl)
 rw[h1,Aa];rcases h2 with ⟨j,k,q1,q2,rfl⟩|⟨q,rfl⟩
 ·rw[Aln q1 q2];dsimp only;rw[Aa,ge0]
 ·rw[q]; rfl
theorem Ama (c:g_api_Client)(hl:c.Roots.length<=1000000)(hf: ∀x∈c.Roots,FewP x):iter (G4 c) AY 0=some (if c.Roots.any Tt=true then .inr 1 else .inl ()):=by
 rw[<-Aah Tt (1:Int) c.Roots 0];refine U3 c.Roots _ hl (λi x hx=> ?_) ?_
 ·unfold G4;rw[AnT (UZ hx),Cm hx,Aa,Ad9 (hf x (Aoh hx)),Aa,Ab6 (An2.1 hx).1 hl];unfold Tt;cases hc:(checkV x !=0)with
  |true=>
   show Ab (some _) _=_;rw[Aa];cases x.Ca with
   |true=>rw[AnT rfl,hc]; rfl
   |false=>rfl
  |false=>
   show Ab (some x) _=_;rw[Aa];cases x.Ca with
   |true=>rw[AnT rfl,hc]; rfl
   |false=>rfl
 ·unfold G4;rw[AnW P8]
def Af9 (c:g_api_Client):Bool:=whoB c.Who&&(!(((c.Roots.length:Int)==0)||(decide ((c.Roots.length:Int)>8)))&&(!(c.Roots.any Tt)&&(NJ (-1) c.Logs&& !((decide ((c.Logs.length:Int)>16))||((c.View !=0)&&(c.View !=1))))))
theorem AmA (c:g_api_Client):Cb ⟨c⟩=some (if Af9 c=true then 0 else 1):=by
 unfold Cb Af9 whoB;dsimp only;cases hw:((eqS c.Who (⟨#[]⟩:ByteArray))||(decide ((c.Who.size:Int)>64)))with
 |true=>rfl
 |false=>
  have hl:c.Who.data.toList.length<=64:=by
   rw[Bool.or_eq_false_iff,decide_eq_false_iff_not]at hw;rw[Aid]; omega
  rw[AnW (by decide),GY 1 (by simp only[Aob]; omega) (by simp only[Aob]; omega),Aa,AoJ,Aly,Aa,AnJ];cases c.Who.data.toList.any AiG with
  |true=>rfl
  |false=>
   cases ((c.Roots.length:Int)==0)with
   |true=>rfl
   |false=>
    cases decide ((c.Roots.length:Int)>8)with
    |true=>rfl
    |false=>
     rw[show(!((false||false)||false))=true from rfl,Am1,Aa];cases c.Roots.any Tt with
     |true=>rfl
     |false=>
      rw[AnW (by decide)];obtain⟨r,h1,h2⟩:=AcR c.Logs 0 (-1);rw[h1,Aa];cases hk:NJ (-1) c.Logs with
      |false=>
       rw[hk,AnW (by decide)]at h2;subst h2; rfl
      |true=>
       rw[hk,AnT rfl]at h2;obtain⟨y,rfl⟩:=h2;dsimp only;cases ((decide ((c.Logs.length:Int)>16))||((c.View !=0)&&(c.View !=1)))<;>rfl
theorem Alz (v:Int):((v !=0)&&(v !=1))=(decide (v<0)||decide (v>1)):=by
 rw[Aoq];simp only[AnP,bne_iff_ne,Aox,AnV];omega
theorem O8 (c:g_api_Client)(h1:c.Roots.length<=1000000)(h2:c.Logs.length<=1000000)(hf: ∀x∈c.Roots,FewP x):ES c=m_client_Check c:=by
 obtain⟨e3,h3⟩:=Si c.Cascade;have hR:m_client_Check c=some (if Af9 c=true then(if E2 c.Pool.L c.Logs≠0 then E2 c.Pool.L c.Logs else e3)else 1):=by
  unfold m_client_Check;rw[Ak0 (AmA c) (show BN ⟨c⟩=some (E2 c.Pool.L c.Logs)from by unfold BN; rw[U5]; rfl) (show Cc ⟨c⟩=some e3 from by unfold Cc; rw[h3]; rfl)];cases Af9 c<;>rfl
 rw[hR];unfold ES Af9;rw[AiE,Aa,Ama c h1 hf,show iter (CK c) AY 0=some (if NJ (-1) c.Logs=true then .inl ()else .inr 1)from
  Ww c h2 c.Logs.length 0 AY (-1) (by omega) (by have:(1000001:Nat)<=AY:=An5 rfl; omega) (λ_=>rfl) (λp q=>by omega),UD _ (by omega),Adg,h3,Alz]
 rw[show((c.Roots.length:Int)==0)=decide ((c.Roots.length:Int)<1)from by rw[Aoq,Aou,AnV]; omega];cases whoB c.Who with
 |false=>rfl
 |true=>
  cases decide ((c.Roots.length:Int)<1)with
  |true=>rfl
  |false=>
   cases decide ((c.Roots.length:Int)>8)with
   |true=>rfl
   |false=>
    cases decide ((c.Logs.length:Int)>16)with
    |true=>
     cases c.Roots.any Tt<;>cases NJ (-1) c.Logs<;>rfl
    |false=>
     cases decide (c.View<0)with
     |true=>cases c.Roots.any Tt<;>cases NJ (-1) c.Logs<;>rfl
     |false=>
      cases decide (c.View>1)with
      |true=>cases c.Roots.any Tt<;>cases NJ (-1) c.Logs<;>rfl
      |false=>
       cases c.Roots.any Tt with
       |true=>rfl
       |false=>
        cases NJ (-1) c.Logs with
        |false=>rfl
        |true=>
         rw[AnW (by decide),AnW (by decide),Aa];dsimp only;rw[AnT rfl,Aa];dsimp only;rw[Aa];by_cases z:E2 c.Pool.L c.Logs=0
         ·rw[z]; rfl
         ·rw[AnT (ne0 z)];show _=some (if E2 c.Pool.L c.Logs≠0 then _ else _);rw[AnT z]
theorem Anj {c:g_api_Cert}(h:AgK c=true):FewP c:=by
 have hp:(c.Names.length<=12/\c.Permit.length<=12/\c.Proms.length<=8/\c.Issuer.size<=200/\c.Subject.size<=200)/\((c.Names.take 12).any λs=>decide ((s.size:Int)>200))=false/\((c.Permit.take 12).any λs=>decide ((s.size:Int)>200))=false:=by
  unfold AgK at h;simp only[AnP,AnV,Bool.not_eq_true']at h;exact⟨by omega,h.1,h.2.1⟩
 obtain⟨⟨l1,l2,l3,l4,l5⟩,a1,a2⟩:=hp;rw[Aow (by omega)]at a1 a2;refine⟨by omega,by omega,λs hs=> ?_,by omega,λs hs=> ?_,by omega,by omega⟩
 ·have:=List.any_eq_false.1 a1 s hs;simp only[AnV]at this;omega
 ·have:=List.any_eq_false.1 a2 s hs;simp only[AnV]at this;omega
theorem LK:BR zCli zCli=some true:=MJ zCli (λx hx=>by cases hx) (by decide) (by decide) (by decide) (by decide)
theorem AiN (who:ByteArray)(rs:List g_api_Cert)(ks:List g_api_Key)(v:Int)(h1:rs.length<=1000)(h2:ks.length<=1000)(hf: ∀x∈rs,FewP x)(hs: ∀x∈rs,Dr x x=some true):
  ∃r,F0 who rs ks v=some r/\MR who rs ks v=some r/\BR r.1 r.1=some true:=by
 unfold F0 MR A4 BQ;rw[GY 168 (by simp; omega) (by simp; omega),GY 24 (by simp; omega) (by simp; omega)];simp only[Aa,AoJ];rw[O8 _ (by dsimp only; omega) (by dsimp only; omega) hf];obtain⟨e,he⟩:=O7 ⟨who,rs,ks,⟨[]⟩,⟨0,[]⟩,v⟩;rw[he,Aa,Aa];by_cases h0:e=0
 ·subst h0;rw[AnW (by decide)];exact⟨_,rfl,rfl,MJ _ hs (show rs.length<=_ by omega) (show ks.length<=_ by omega) (by simp) (by simp)⟩
 ·rw[AnT (ne0 h0),AnT (ne0 h0)];exact⟨_,rfl,rfl,LK⟩
theorem AeQ (c:g_api_Client)(h:g_api_Head)(h1:c.Roots.length<=1000)(h2:c.Logs.length<=1000)(h5:c.Cascade.Levels.length<=1000)(hf: ∀x∈c.Roots,FewP x)(hs: ∀x∈c.Roots,Dr x x=some true):
  ∃r,Gp c h=some r/\La c h=some r/\BR r.1 r.1=some true:=by
 unfold Gp La;rw[O8 c (by omega) (by omega) hf];obtain⟨e,he⟩:=O7 c;rw[he,Aa,Aa];by_cases h0:e=0
 ·subst h0;rw[AnW (by decide),AnW (by decide),Am5,AfB _ _ (by omega),Aa,Aa];by_cases q:(TO c.Pool.L h c.Logs).2=0
  ·have w:=(AnM q).2.2.2.2;rw[AnW (by simp[q]),AnW (by simp[q]),q];exact⟨_,rfl,rfl,MJ _ hs (show c.Roots.length<=_ by omega) (show c.Logs.length<=_ by omega) (show(TO c.Pool.L h c.Logs).1.length<=_ by omega) (show c.Cascade.Levels.length<=_ by omega)⟩
  ·rw[AnT (ne0 q),AnT (ne0 q)];exact⟨_,rfl,rfl,LK⟩
 ·rw[AnT (ne0 h0),AnT (ne0 h0)];exact⟨_,rfl,rfl,LK⟩
theorem AjS (c:g_api_Client)(x:g_api_Cascade)(h1:c.Roots.length<=1000)(h2:c.Logs.length<=1000)(h4:c.Pool.L.length<=1000)(h5:x.Levels.length<=1000)(hf: ∀x∈c.Roots,FewP x)(hs: ∀x∈c.Roots,Dr x x=some true):
  ∃r,D4 c x=some r/\MT c x=some r/\BR r.1 r.1=some true:=by
 obtain⟨e,he⟩:=O7 c;obtain⟨f,hx⟩:=Si x;have hD:=Ans he hx;unfold MT;rw[O8 c (by omega) (by omega) hf,he,Aa,Adg,hx];by_cases h0:e=0
 ·subst h0;rw[AnW (λq=>q rfl)]at hD;rw[AnW (by decide),Aa];by_cases k0:f=0
  ·subst k0;rw[AnW (λq=>q rfl)]at hD;rw[AnW (by decide)];by_cases hd:x.Day<c.Cascade.Day
   ·rw[AnT hd]at hD;rw[hD,AnT (An1 hd)];exact⟨_,rfl,rfl,LK⟩
   ·rw[AnW hd]at hD;rw[hD,AnW (λq=>hd (AoN q))];exact⟨_,rfl,rfl,MJ _ hs (show c.Roots.length<=_ by omega) (show c.Logs.length<=_ by omega) (show c.Pool.L.length<=_ by omega) (show x.Levels.length<=_ by omega)⟩
  ·rw[AnT k0]at hD;rw[hD,AnT (ne0 k0)];exact⟨_,rfl,rfl,LK⟩
 ·rw[AnT h0]at hD;rw[hD,AnT (ne0 h0)];exact⟨_,rfl,rfl,LK⟩
theorem AgI {x:g_api_Cascade}(h:AjD x=true):x.Levels.length<=18:=by
 unfold AjD at h;rw[AnP,AnV]at h;omega
theorem AdU (a0:g_api_Client)(a1:g_api_Head)(a2:g_api_Cascade)(a3:ByteArray)(a4:Int):EW a0 a1 a2 a3 a4=some true:=by
 unfold EW;rw[AbB,Aa,AnW (by decide)];obtain⟨b,hb,hF⟩:=AjF a0;rw[hb,Aa,AgJ];cases b with
 |false=>rfl
 |true=>
  obtain⟨f1,f2,f3,f4⟩:=hF rfl;rw[show gu (!(!true)) (some (AjD a2))=some (AjD a2)from rfl,Aa];cases hx:AjD a2 with
  |false=>rfl
  |true=>
   cases decide ((a3.size:Int)>100)with
   |true=>rfl
   |false=>
    obtain⟨g1,g2⟩:=Ank f1;have l1:=AgI f4;have l2:=AgI hx;have hf: ∀x∈a0.Roots,FewP x:=λx q=>Anj (g2 x q);have hs: ∀x∈a0.Roots,Dr x x=some true:=λx q=>Ahe (g2 x q);obtain⟨r1,p1,p2,p3⟩:=AiN a3 a0.Roots a0.Logs a4 (by omega) (by omega) hf hs;obtain⟨r2,q1,q2,q3⟩:=AeQ a0 a1 (by omega) (by omega) (by omega) hf hs;obtain⟨r3,t1,t2,t3⟩:=AjS a0 a2 (by omega) (by omega) (by omega) (by omega) hf hs;obtain⟨e,he⟩:=O7 a0;rw[AnW (by decide),p1,Aa,p2,Aa,q1,Aa,q2,Aa,t1,Aa,t2,Aa,p3,Aa,beq_self_eq_true,beq_self_eq_true,beq_self_eq_true,
     show gu (true&&true) (BR r2.1 r2.1)=BR r2.1 r2.1 from rfl,q3,Aa,show gu (((true&&true)&&true)&&true) (BR r3.1 r3.1)=BR r3.1 r3.1 from rfl,t3,Aa,
     O8 a0 (by omega) (by omega) hf,he]
    show Ab (some e) _=_;rw[Aa];show Ab (some e) _=_;rw[Aa,Bd,beq_self_eq_true];rfl
end Go.Proofs.YtnhdojckpcbjeaaGreatDoor
end
