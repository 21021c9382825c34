/- Several texts, one behind the other. Conditions: none. -/
import Derived.Test.YtibojdgdjhngiaaGreatDoorZk
import Derived.KernelRfl
import Derived.Test.YtibojdgdjhngiaaGreatDoorZg
import Derived.Test.YtibojdgdjhngiaaGreatDoorZh
import Derived.Test.YtibojdgdjhngiaaGreatDoorZi
import Derived.Test.YtibojdgdjhngiaaGreatDoorZb
import Derived.Test.YtibojdgdjhngiaaGreatDoorZj
import Derived.Test.YtibojdgdjhngiaaGreatDoorCards
import Derived.Test.YtibojdgdjhngiaaGreatDoorTie
import Derived.WalkKit
import Derived.ProofKit
import Derived.OpenShut
import Derived.Deep.DeepHandedRow
import Derived.Lib.LaidTab
import Derived.SevenTiedAt
import Derived.Stop.LaidErr
set_option linter.unusedSimpArgs false
set_option linter.unusedVariables false
set_option maxHeartbeats 20000000
set_option maxRecDepth 100000
section
namespace Go.Proofs.YtibojdgdjhngiaaGreatDoor
open Go Go.Gw Go.Ax
theorem may_up: ∀{d:Nat} {x:g_api_Item},mayB d x=true→mayB (d+1) x=true
 |0,x,h=>by cases h
 |d+1,x,h=>by
  simp only[mayB,Bool.and_eq_true,List.all_eq_true]at h;unfold mayB;simp only[Bool.and_eq_true,List.all_eq_true];exact⟨h.1,fun y hy=>may_up (h.2 y hy)⟩
theorem may_le {d e:Nat}{x:g_api_Item}(h:d≤e)(hm:mayB d x=true):mayB e x=true:=by
 induction h with
 |refl=>exact hm
 |step _ ih=>exact may_up ih
theorem may_in {d:Nat}{x y:g_api_Item}(h:mayB (d+1) x=true)(hy:y∈x.L):mayB d y=true:=by
 simp only[mayB,Bool.and_eq_true,List.all_eq_true]at h;exact h.2 y hy
theorem may_L8 {d:Nat}{x y:g_api_Item}(h:mayB d x=true)(hd:d≤8)(hy:y∈x.L):mayB 8 y=true:=by
 cases d with
 |zero=>cases h
 |succ d=>exact may_le (by omega) (may_in h hy)
theorem count_int {n:Int}(h0:0≤n)(h1:n≤9223372036854775807)(r:Its):D9 (G1 n::r)=some (n,r):=by
 unfold D9;rw[Dd,if_pos ⟨rfl,X9 n 7⟩,Option.bind_some,YL (by omega) h1,if_pos h0]
theorem toU_cast (x:UInt64):toU (x.toNat:Int)=x:=by
 apply UInt64.toNat_inj.1;have:=SZ (x.toNat:Int);have h:=x.toNat_lt;omega
theorem big_int {x:UInt64}(h:x.toNat≤9223372036854775807)(r:Its):Su (Jq x::r)=some (x,r):=by
 unfold Su Jq;rw[BC (by omega) (by omega),count_int (by omega) (by omega),Option.map_some,toU_cast]
theorem bs_list (s:ByteArray):bs s.data.toList=s:=by
 obtain⟨⟨l⟩⟩:=s;rfl
def NN:Its→Option (ByteArray×Its):=Jk 12 (fun x=>bs x.B)
def VO:Its→Option (Bool×Its):=Jk 1 (fun x=>Uc x.B)
theorem text_text {s:ByteArray}(h:mayB 8 (EL s)=true)(r:Its):NN (EL s::r)=some (s,r):=by
 show Jk 12 (fun x=>bs x.B) (EL s::r)=_;rw[Dd,if_pos ⟨rfl,h⟩];show some (bs s.data.toList,r)=_;rw[bs_list]
theorem bool_bool (v:Bool)(r:Its):VO (LJ v::r)=some (v,r):=by
 show Jk 1 (fun x=>Uc x.B) (LJ v::r)=_;have h:mayB 8 (LJ v)=true:=by cases v<;>rfl
 rw[Dd,if_pos ⟨rfl,h⟩];cases v<;>rfl
theorem sub_seq {l:Its}(h:mayB 8 (JP l)=true)(r:Its):Ui (JP l::r)=some (l,r):=by
 show Jk 48 (fun x=>x.L) (JP l::r)=_;rw[Dd,if_pos ⟨rfl,h⟩];rfl
theorem allT_map: ∀(l:List ByteArray),(∀s∈l,mayB 8 (EL s)=true)→TY (l.map EL)=some l
 | [],_=>rfl
 |s::l,h=>by
  show(if(EL s).Tag=12∧mayB 8 (EL s)=true then(TY (l.map EL)).map fun t=>bs (EL s).B::t else none)=_;rw[if_pos ⟨rfl,h s List.mem_cons_self⟩,allT_map l fun x hx=>h x (List.mem_cons_of_mem _ hx)];show some (bs s.data.toList::l)=_;rw[bs_list]
theorem texts_texts {l:List ByteArray}(h:mayB 8 (Gi l)=true)(r:Its):IF (Gi l::r)=some (l,r):=by
 unfold IF;rw[show Gi l=JP (l.map EL)from rfl]at h⊢;rw[sub_seq h,Option.bind_some,allT_map l fun s hs=>may_L8 h (by decide) (List.mem_map_of_mem hs)];rfl
def Zy (l:Its):Option (g_api_Cert×Its):=(D9 l).bind fun x1=>(NN x1.2).bind fun x2=>(NN x2.2).bind fun x3=>(Su x3.2).bind fun x4=>(IF x4.2).bind fun x5=>(D9 x5.2).bind fun x6=>(D9 x6.2).bind fun x7=>(VO x7.2).bind fun x8=>(D9 x8.2).bind fun x9=>(IF x9.2).bind fun x10=>if x10.2=[]then some (⟨x1.1,x2.1,x3.1,x4.1,x5.1,x6.1,x7.1,x8.1,x9.1,x10.1,[],⟨0,0⟩⟩,[])else none
def VH (l:Its):Prop:= ∀x∈l,x.L.length≤100000
theorem next1_few {α:Type}{tag:Int}{v:g_api_Item→α}{l r:Its}{a:α}(h:Jk tag v l=some (a,r))(hl:VH l):VH r:=by
 cases l with
 |nil=>cases h
 |cons x l=>
  rw[Dd]at h;split at h
  ·cases h;exact fun y hy=>hl y (List.mem_cons_of_mem _ hy)
  ·cases h
theorem count1_few {l r:Its}{a:Int}(h:D9 l=some (a,r))(hl:VH l):VH r:=by
 unfold D9 at h;cases hn:Jk 2 (fun x=>JS x.B) l with
 |none=>rw[hn]at h; cases h
 |some p=>
  rw[hn,Option.bind_some]at h;split at h
  ·cases h;exact next1_few hn hl
  ·cases h
theorem big1_few {l r:Its}{a:UInt64}(h:Su l=some (a,r))(hl:VH l):VH r:=by
 unfold Su at h;cases hn:D9 l with
 |none=>rw[hn]at h; cases h
 |some p=>
  rw[hn]at h;cases h;exact count1_few (a:=p.1) hn hl
theorem texts1_few {l r:Its}{a:List ByteArray}(h:IF l=some (a,r))(hl:VH l):VH r:=by
 unfold IF at h;cases hn:Ui l with
 |none=>rw[hn]at h; cases h
 |some p=>
  rw[hn,Option.bind_some]at h;cases ht:TY p.1 with
  |none=>rw[ht]at h; cases h
  |some t=>
   rw[ht]at h;cases h;exact next1_few hn hl
theorem rd_some {α:Type}(a:α)(r:Its):rd (some (a,r))=some (some (a,⟨r⟩)):=rfl
theorem preR_eq {l:Its}(hl:VH l):Co ⟨l⟩=rd (Zy l):=by
 unfold Co Zy;rw[LC];cases h1:D9 l with
 |none=>rfl
 |some x1=>
  obtain⟨x1,l1⟩:=x1;replace hl:=count1_few h1 hl;simp only[rd_some,Ab,Option.bind_some];rw[show A1 ⟨l1⟩=rd (NN l1)from Tb l1];cases h2:NN l1 with
  |none=>rfl
  |some x2=>
   obtain⟨x2,l2⟩:=x2;replace hl:=next1_few h2 hl;simp only[rd_some,Ab,Option.bind_some];rw[show A1 ⟨l2⟩=rd (NN l2)from Tb l2];cases h3:NN l2 with
   |none=>rfl
   |some x3=>
    obtain⟨x3,l3⟩:=x3;replace hl:=next1_few h3 hl;simp only[rd_some,Ab,Option.bind_some];rw[Adj];cases h4:Su l3 with
    |none=>rfl
    |some x4=>
     obtain⟨x4,l4⟩:=x4;replace hl:=big1_few h4 hl;simp only[rd_some,Ab,Option.bind_some];rw[Ry hl];cases h5:IF l4 with
     |none=>rfl
     |some x5=>
      obtain⟨x5,l5⟩:=x5;replace hl:=texts1_few h5 hl;simp only[rd_some,Ab,Option.bind_some];rw[LC];cases h6:D9 l5 with
      |none=>rfl
      |some x6=>
       obtain⟨x6,l6⟩:=x6;replace hl:=count1_few h6 hl;simp only[rd_some,Ab,Option.bind_some];rw[LC];cases h7:D9 l6 with
       |none=>rfl
       |some x7=>
        obtain⟨x7,l7⟩:=x7;replace hl:=count1_few h7 hl;simp only[rd_some,Ab,Option.bind_some];rw[show Cp ⟨l7⟩=rd (VO l7)from Aaq l7];cases h8:VO l7 with
        |none=>rfl
        |some x8=>
         obtain⟨x8,l8⟩:=x8;replace hl:=next1_few h8 hl;simp only[rd_some,Ab,Option.bind_some];rw[LC];cases h9:D9 l8 with
         |none=>rfl
         |some x9=>
          obtain⟨x9,l9⟩:=x9;replace hl:=count1_few h9 hl;simp only[rd_some,Ab,Option.bind_some];rw[Ry hl];cases h10:IF l9 with
          |none=>rfl
          |some x10=>
           obtain⟨x10,l10⟩:=x10;simp only[rd_some,Ab,Option.bind_some];rw[end_eq];by_cases he:l10=[]
           ·rw[if_pos he,if_pos he]; rfl
           ·rw[if_neg he,if_neg he]; rfl
def prom1 (l:Its):Option (g_api_Promise×Its):=(D9 l).bind fun x1=>(D9 x1.2).bind fun x2=>(Su x2.2).bind fun x3=>(Su x3.2).bind fun x4=>(Su x4.2).bind fun x5=>(Su x5.2).bind fun x6=>some (⟨x1.1,x2.1,(x3.1,x4.1),⟨x5.1,x6.1⟩⟩,x6.2)
structure Nums (c:g_api_Cert):Prop where
 serial:0≤c.Serial∧c.Serial≤1099511627776
 frm:0≤c.From∧c.From≤1099511627776
 til:0≤c.Until∧c.Until≤1099511627776
 key:c.Key.toNat<2305843009213691579
 depth:0≤c.Depth∧c.Depth≤4
 sig:sigB c.Sig=true
 proms: ∀p∈c.Proms,promBC p=true
theorem numB_rng {n:Int}(h:numB n=true):0≤n∧n≤1099511627776:=by
 unfold numB at h;simp only[Bool.and_eq_true,decide_eq_true_eq]at h;omega
theorem Form.nums {c:g_api_Cert}(h:Form c):Nums c:=by
 refine⟨numB_rng h.serial,numB_rng h.frm,numB_rng h.til,by have:=h.keyQ; omega,?_,h.sig,OS h.proms⟩;cases hc:c.Ca with
 |true=>obtain⟨_,_,a,b,_⟩:=h.ca hc; exact⟨a,b⟩
 |false=>obtain⟨_,_,a,_⟩:=h.leaf hc; omega
def Km (c:g_api_Cert):g_api_Cert:=⟨c.Serial,c.Issuer,c.Subject,c.Key,c.Names,c.From,c.Until,c.Ca,c.Depth,c.Permit,[],⟨0,0⟩⟩
def bareS (c:g_api_Cert):g_api_Cert:=⟨c.Serial,c.Issuer,c.Subject,c.Key,c.Names,c.From,c.Until,c.Ca,c.Depth,c.Permit,c.Proms,⟨0,0⟩⟩
theorem pre_pre {c:g_api_Cert}(h:Nums c)(hm:mayB 8 (K5 c)=true):Zy (K5 c).L=some (Km c,[]):=by
 have hm: ∀y∈[G1 c.Serial,EL c.Issuer,EL c.Subject,Jq c.Key,Gi c.Names,G1 c.From,G1 c.Until,LJ c.Ca,G1 c.Depth,Gi c.Permit],mayB 8 y=true:=fun y hy=>may_L8 hm (by decide) hy;have m2:mayB 8 (EL c.Issuer)=true:=hm _ (by simp);have m3:mayB 8 (EL c.Subject)=true:=hm _ (by simp);have m5:mayB 8 (Gi c.Names)=true:=hm _ (by simp);have m10:mayB 8 (Gi c.Permit)=true:=hm _ (by simp);have h1:=h.serial; have h2:=h.frm; have h3:=h.til; have h4:=h.key; have h5:=h.depth;show Zy [G1 c.Serial,EL c.Issuer,EL c.Subject,Jq c.Key,Gi c.Names,G1 c.From,G1 c.Until,LJ c.Ca,G1 c.Depth,Gi c.Permit]=_;unfold Zy;rw[count_int h1.1 (by omega),Option.bind_some,text_text m2,Option.bind_some,text_text m3,Option.bind_some,big_int (by omega),Option.bind_some,texts_texts m5,Option.bind_some,count_int h2.1 (by omega),Option.bind_some,count_int h3.1 (by omega),Option.bind_some,bool_bool,Option.bind_some,count_int h5.1 (by omega),Option.bind_some,texts_texts m10,Option.bind_some,if_pos rfl];rfl
end Go.Proofs.YtibojdgdjhngiaaGreatDoor
end
section
namespace Go.Proofs.YtibojdgdjhngiaaGreatDoor
open Go Go.Gw Go.Ax
theorem put_stable: ∀{d e:Nat} {x:g_api_Item},mayB d x=true→d≤e→putB e x=putB d x
 |0,e,x,h,_=>by cases h
 |d+1,0,x,_,h=>by omega
 |d+1,e+1,x,h,hd=>by
  have hf: ∀(l:List g_api_Item),(∀y∈l,mayB d y=true)→l.flatMap (putB e)=l.flatMap (putB d):=by
   intro l;induction l with
   |nil=>intro _; rfl
   |cons y l ih=>
    intro hl;rw[List.flatMap_cons,List.flatMap_cons,put_stable (hl y List.mem_cons_self) (by omega),ih fun z hz=>hl z (List.mem_cons_of_mem _ hz)]
  have:=hf x.L fun y hy=>may_in h hy;show toB x.Tag::(EG (x.B++x.L.flatMap (putB e)).length++(x.B++x.L.flatMap (putB e)))=toB x.Tag::(EG (x.B++x.L.flatMap (putB d)).length++(x.B++x.L.flatMap (putB d)));rw[this]
theorem in_len {d:Nat}{x y:g_api_Item}(h:mayB (d+1) x=true)(hd:d+1≤8)(hy:y∈x.L):(putB 8 y).length≤(putB 8 x).length:=by
 rw[put_stable h hd,put_stable (may_in h hy) (by omega)];have h1:=Ni (putB d) hy;show _≤(toB x.Tag::(EG (x.B++x.L.flatMap (putB d)).length++(x.B++x.L.flatMap (putB d)))).length;have e:(x.B++x.L.flatMap (putB d)).length=x.B.length+(x.L.flatMap (putB d)).length:=List.length_append;rw[List.length_cons,List.length_append,e];omega
theorem lenB_mono {n m:Nat}(h:n≤m):(EG n).length≤(EG m).length:=by
 unfold EG;split
 ·split
  ·simp
  ·split<;>simp
 ·rw[if_neg (show¬m<128 from by omega)];split
  ·split<;>simp
  ·rw[if_neg (show¬m<256 from by omega)];simp
def szs (d:Nat)(l:List g_api_Item):Nat:=(l.flatMap (putB d)).length
theorem seq_mono {d:Nat}{l k:List g_api_Item}(h:szs d l≤szs d k):(putB (d+1) (JP l)).length≤(putB (d+1) (JP k)).length:=by
 have h1:=lenB_mono h;show(toB 48::(EG ([]++l.flatMap (putB d)).length++([]++l.flatMap (putB d)))).length≤(toB 48::(EG ([]++k.flatMap (putB d)).length++([]++k.flatMap (putB d)))).length;unfold szs at h h1;rw[List.nil_append,List.nil_append,List.length_cons,List.length_cons,List.length_append,List.length_append];omega
theorem szs2 (d:Nat)(a b:g_api_Item):szs d [a,b]=(putB d a).length+(putB d b).length:=by
 unfold szs;simp[List.flatMap_cons]
theorem int_least (d:Nat)(n:Int):(putB (d+1) (G1 0)).length≤(putB (d+1) (G1 n)).length:=by
 have h8:(be8 n).length=8:=rfl;have hne:be8 n≠[]:=by intro h; rw[h]at h8; cases h8
 have h1:(G1 0).B.length=1:=rfl;have h2:1≤(G1 n).B.length:=by
  have:=SX _ hne;show 1≤(M9 (be8 n)).length;cases ht:M9 (be8 n)with
  |nil=>exact absurd ht this
  |cons a l=>rw[List.length_cons]; omega
 have h3: ∀m:Int,(putB (d+1) (G1 m)).length=1+(EG (G1 m).B.length).length+(G1 m).B.length:=fun m=>by
  have e:(G1 m).B++(G1 m).L.flatMap (putB d)=(G1 m).B:=by
   show(G1 m).B++[]=_;rw[List.append_nil]
  show(toB 2::(EG ((G1 m).B++(G1 m).L.flatMap (putB d)).length++((G1 m).B++(G1 m).L.flatMap (putB d)))).length=_;rw[e,List.length_cons,List.length_append];omega
 rw[h3,h3];have:=lenB_mono (show(G1 0).B.length≤(G1 n).B.length from by omega);omega
theorem big0:Jq 0=G1 0:=by
 unfold Jq;rw[show w64 (((0:UInt64).toNat:Int))=0 from BC (x:=0) (by decide) (by decide)]
theorem may_seq {d:Nat}{l:List g_api_Item}(h: ∀y∈l,mayB d y=true):mayB (d+1) (JP l)=true:=by
 unfold mayB;simp only[Bool.and_eq_true,List.all_eq_true];exact⟨⟨rfl,rfl⟩,h⟩
theorem in_seq {d:Nat}{l:List g_api_Item}(h:mayB (d+1) (JP l)=true): ∀y∈l,mayB d y=true:=fun y hy=>may_in h hy
theorem may2 {d:Nat}{a b:g_api_Item}(ha:mayB d a=true)(hb:mayB d b=true):mayB (d+1) (JP [a,b])=true:=may_seq (mem2 ha hb)
structure Okc (c:g_api_Cert):Prop where
 form:Form c
 fb:formB c=true
 may:mayB 8 (wholeI c)=true
 len:(putB 8 (wholeI c)).length≤2048
theorem okc {c:g_api_Cert}(h:checkV c=0):Okc c:=by
 unfold checkV at h;cases hf:formB c with
 |false=>rw[hf]at h; simp at h
 |true=>
  rw[hf,if_pos rfl]at h;by_cases h2:mayB 8 (wholeI c)=true∧(putB 8 (wholeI c)).length≤2048
  ·exact⟨TF hf,hf,h2.1,h2.2⟩
  ·rw[if_neg h2]at h; cases h
theorem Okc.chk {c:g_api_Cert}(h:Okc c):checkV c=0:=by
 unfold checkV;rw[h.fb,if_pos rfl,if_pos ⟨h.may,h.len⟩]
theorem form_bare {c:g_api_Cert}(ps:List g_api_Promise)(h:formB c=true)(hp:promsB (-1) ps=true)(hn:(ps.length:Int)≤4):
  formB ⟨c.Serial,c.Issuer,c.Subject,c.Key,c.Names,c.From,c.Until,c.Ca,c.Depth,c.Permit,ps,⟨0,0⟩⟩=true:=by
 unfold formB at h⊢;have hs:sigB (⟨0,0⟩:g_api_Sig)=true:=rfl;have hn':=decide_eq_true hn;have e: ∀(a b d e f g k l m:Bool),(a&&b&&(e&&f&&g&&k&&l)&&m)=true→(true&&b&&(e&&f&&g&&true&&true)&&m)=true:=by
  intro a b d e f g k l m;cases a<;>cases b<;>cases e<;>cases f<;>cases g<;>cases k<;>cases l<;>cases m<;>decide
 have:=e _ _ true _ _ _ _ _ _ h;show(promsB (-1) ps&&_&&(_&&_&&_&&decide ((ps.length:Int)≤4)&&sigB (⟨0,0⟩:g_api_Sig))&&_)=true;rw[hp,hn',hs];exact this
theorem may_body {c:g_api_Cert}(h:Okc c):mayB 7 (Mq c)=true:=in_seq h.may _ (by simp)
theorem may_pre {c:g_api_Cert}(h:Okc c):mayB 6 (K5 c)=true:=in_seq (may_body h) _ (by simp)
theorem ok_bare {c:g_api_Cert}(ps:List g_api_Promise)(h:Okc c)(hp:promsB (-1) ps=true)(hn:(ps.length:Int)≤4)(hm:mayB 6 (Kg ps)=true)(hz:(putB 6 (Kg ps)).length≤(putB 6 (Kg c.Proms)).length):
  Okc ⟨c.Serial,c.Issuer,c.Subject,c.Key,c.Names,c.From,c.Until,c.Ca,c.Depth,c.Permit,ps,⟨0,0⟩⟩:=by
 have hf:=form_bare ps h.fb hp hn;have hb:mayB 7 (JP [K5 c,Kg ps])=true:=may2 (may_pre h) hm;have z6:mayB 6 (Jq 0)=true:=X9 _ 5;refine⟨TF hf,hf,may2 hb (may2 z6 z6),?_⟩;have hl:=h.len;have e1:(putB 8 (JP [JP [K5 c,Kg ps],JP [Jq 0,Jq 0]])).length≤(putB 8 (wholeI c)).length:=by
  refine seq_mono ?_;rw[szs2,szs2];have a1:(putB 7 (JP [K5 c,Kg ps])).length≤(putB 7 (Mq c)).length:=by
   refine seq_mono ?_;rw[szs2,szs2];omega
  have a2:(putB 7 (JP [Jq 0,Jq 0])).length≤(putB 7 (JP [Jq c.Sig.E,Jq c.Sig.S])).length:=by
   refine seq_mono ?_;rw[szs2,szs2];have b1:(putB 6 (Jq 0)).length≤(putB 6 (Jq c.Sig.E)).length:=(by rw[big0]; exact int_least 5 _);have b2:(putB 6 (Jq 0)).length≤(putB 6 (Jq c.Sig.S)).length:=(by rw[big0]; exact int_least 5 _);omega
  omega
 show(putB 8 (JP [JP [K5 c,Kg ps],JP [Jq 0,Jq 0]])).length≤2048;omega
theorem ok_bareP {c:g_api_Cert}(h:Okc c):Okc (Km c):=ok_bare [] h rfl (by decide) (may_seq (d:=5) (l:=[]) (fun y hy=>(by cases hy))) (seq_mono (d:=5) (l:=[]) (by unfold szs; simp))
def wholeB (c:g_api_Cert):List UInt8:=putB 8 (wholeI c)
def bodyBy (c:g_api_Cert):List UInt8:=putB 8 (Mq c)
def preBy (c:g_api_Cert):List UInt8:=putB 8 (K5 c)
theorem body_le {c:g_api_Cert}(h:Okc c):(bodyBy c).length≤2048:=by
 have h1:=in_len (y:=Mq c) h.may (by decide) (by show Mq c∈[Mq c,_]; simp);have h2:=h.len;show(putB 8 (Mq c)).length≤_;omega
theorem pre_le {c:g_api_Cert}(h:Okc c):(preBy c).length≤2048:=by
 have h1:=in_len (y:=K5 c) (may_body h) (by decide) (by show K5 c∈[K5 c,_]; simp);have h2:=body_le h;show(putB 8 (K5 c)).length≤_;have h3:(putB 8 (Mq c)).length≤2048:=h2;omega
theorem Put_may {x:g_api_Item}(h:mayB 8 x=true)(hl:(putB 8 x).length≤8192):Im x=some (putB 8 x,0):=by
 rw[AbB (by omega),if_pos h,if_pos hl]
theorem cPre_eq {c:g_api_Cert}(h:Okc c):EJ c=some (preBy c,0):=by
 unfold EJ EF;have hl:=pre_le h;rw[LG,h.chk,Ab,if_neg (by decide),Xg h.form.sized,Ab,Put_may (may_le (by decide) (may_pre h)) (by show(preBy c).length≤_; omega)];rfl
theorem not_zero {z:Int}(h:z≠0):(z !=0)=true:=by simpa using h
theorem cPre_not {c:g_api_Cert}(h:checkV c≠0):EJ c=some ([],checkV c):=by
 unfold EJ EF;rw[LG,Ab,if_pos (not_zero h)];rfl
theorem Get_put {x:g_api_Item}(r:List UInt8)(h:mayB 8 x=true)(hl:(putB 8 x).length≤8192)(hr:r.length≤1000000):Io (putB 8 x++r) 0=some (x,((putB 8 x).length:Int),0):=by
 unfold Io;have e0:(decide ((0:Int)<0)||decide ((0:Int)>((putB 8 x++r).length:Int)))=false:=by
  have: ¬(0:Int)>((putB 8 x++r).length:Int):=by omega
  rw[decide_eq_false this]; rfl
 have e1:cut (putB 8 x++r) 0 ((putB 8 x++r).length:Int)=some (putB 8 x++r):=by
  have:=QL (putB 8 x++r) [];rw[List.append_nil]at this;exact this
 have e2:Lv (putB 8 x++r) 8=some (x,r,0):=AcR 8 8 C3 x r h (by decide) (by have:=GK; omega) (by decide) hl;rw[e0,if_neg (by decide),e1,Ab,e2,Ab,if_neg (by simp),B4];have e3:w64 (((putB 8 x++r).length:Int)-(r.length:Int))=((putB 8 x).length:Int):=by
  rw[List.length_append,BC (by omega) (by omega)];omega
 show some (x,w64 (((putB 8 x++r).length:Int)-(r.length:Int)),0)=_;rw[e3]
end Go.Proofs.YtibojdgdjhngiaaGreatDoor
end
section
namespace Go.Proofs.YtibojdgdjhngiaaGreatDoor
open Go Go.Gw Go.Ax
def AaA (a:UInt8):UInt8:=if a.toNat<128 then 0 else 255
theorem sgn8_nat (a:UInt8):((AaA a).toNat:Int)=if a.toNat<128 then 0 else 255:=by
 unfold AaA;split<;>rfl
theorem trim_id: ∀(l:List UInt8),Ht l=true→M9 l=l
 | [],h=>by cases h
 | [a],_=>rfl
 |a::b::l,h=>by
  unfold M9;rw[if_pos h]
theorem trim_sgn {a:UInt8}{l:List UInt8}(h:l.length≤6):M9 (AaA a::a::l)=M9 (a::l):=by
 have e:Ht (AaA a::a::l)=false:=(R2 h).2 (sgn8_nat a);show(if Ht (AaA a::a::l)=true then _ else _)=_;rw[e];rfl
theorem sval_sgn (a:UInt8)(l:List UInt8):PU (AaA a::a::l)=PU (a::l):=Rz (sgn8_nat a)
theorem be8_eight (a7 a6 a5 a4 a3 a2 a1 a0:UInt8):be8 (PU [a7,a6,a5,a4,a3,a2,a1,a0])=[a7,a6,a5,a4,a3,a2,a1,a0]:=by
 have h6:=a6.toNat_lt; have h5:=a5.toNat_lt; have h4:=a4.toNat_lt; have h3:=a3.toNat_lt; have h2:=a2.toNat_lt; have h1:=a1.toNat_lt; have h0:=a0.toNat_lt;have h7:=a7.toNat_lt;have hs:PU [a7,a6,a5,a4,a3,a2,a1,a0]=((((((s8 a7*256+(a6.toNat:Int))*256+(a5.toNat:Int))*256+(a4.toNat:Int))*256+(a3.toNat:Int))*256+(a2.toNat:Int))*256+(a1.toNat:Int))*256+(a0.toNat:Int):=rfl;have hS:s8 a7%256=(a7.toNat:Int):=by unfold s8; split<;>omega
 generalize s8 a7=S at hs hS;generalize PU [a7,a6,a5,a4,a3,a2,a1,a0]=n at hs;have d1:n/256=(((((S*256+(a6.toNat:Int))*256+(a5.toNat:Int))*256+(a4.toNat:Int))*256+(a3.toNat:Int))*256+(a2.toNat:Int))*256+(a1.toNat:Int):=by omega
 have d2:n/256/256=((((S*256+(a6.toNat:Int))*256+(a5.toNat:Int))*256+(a4.toNat:Int))*256+(a3.toNat:Int))*256+(a2.toNat:Int):=by rw[d1]; omega
 have d3:n/256/256/256=(((S*256+(a6.toNat:Int))*256+(a5.toNat:Int))*256+(a4.toNat:Int))*256+(a3.toNat:Int):=by rw[d2]; omega
 have d4:n/256/256/256/256=((S*256+(a6.toNat:Int))*256+(a5.toNat:Int))*256+(a4.toNat:Int):=by rw[d3]; omega
 have d5:n/256/256/256/256/256=(S*256+(a6.toNat:Int))*256+(a5.toNat:Int):=by rw[d4]; omega
 have d6:n/256/256/256/256/256/256=S*256+(a6.toNat:Int):=by rw[d5]; omega
 have d7:n/256/256/256/256/256/256/256=S:=by rw[d6]; omega
 have q: ∀(k:Nat) (x:UInt8),k≤64→n/2^k%256=(x.toNat:Int)→toB (B1 n k)=x:=fun k x hk h=>by
  apply UInt8.toNat_inj.1;have:=PX n k hk (by exact Int.le_of_lt (Int.pow_pos (by decide)));omega
 have p1:n/2^8=n/256:=rfl;have p2:n/2^16=n/256/256:=by
  show n/65536=_;omega
 have p3:n/2^24=n/256/256/256:=by
  show n/16777216=_;omega
 have p4:n/2^32=n/256/256/256/256:=by
  show n/4294967296=_;omega
 have p5:n/2^40=n/256/256/256/256/256:=by
  show n/1099511627776=_;omega
 have p6:n/2^48=n/256/256/256/256/256/256:=by
  show n/281474976710656=_;omega
 have p7:n/2^56=n/256/256/256/256/256/256/256:=by
  show n/72057594037927936=_;omega
 unfold be8;rw[q 56 a7 (by decide) (by rw[p7,d7]; exact hS),q 48 a6 (by decide) (by rw[p6,d6]; omega),q 40 a5 (by decide) (by rw[p5,d5]; omega),q 32 a4 (by decide) (by rw[p4,d4]; omega),q 24 a3 (by decide) (by rw[p3,d3]; omega),
  q 16 a2 (by decide) (by rw[p2,d2]; omega),q 8 a1 (by decide) (by rw[p1,d1]; omega),q 0 a0 (by decide) (by rw[Int.pow_zero,Int.ediv_one]; omega)]
theorem trim_be8: ∀(k:Nat) (a:UInt8) (l:List UInt8),(a::l).length+k=8→M9 (be8 (PU (a::l)))=M9 (a::l)
 |0,a,l,h=>by
  match l,h with
  | [a6,a5,a4,a3,a2,a1,a0],_=>rw[be8_eight]
 |k+1,a,l,h=>by
  have h:l.length+1+(k+1)=8:=by simpa using h
  have ih:=trim_be8 k (AaA a) (a::l) (by simp only[List.length_cons]; omega);rw[sval_sgn,trim_sgn (by omega)]at ih;exact ih
theorem least_len {l:List UInt8}(h:Ht l=true):1≤l.length∧l.length≤8:=by
 match l,h with
 | [a],_=>exact⟨by simp,by simp⟩
 |a::b::l,h=>
  have h:(decide (((a::b::l).length:Int)≤8)&&((a.toNat:Int) !=((toB (-((Wz b 7).toNat:Int))).toNat:Int)))=true:=h;simp only[Bool.and_eq_true,decide_eq_true_eq]at h;exact⟨by simp,by omega⟩
theorem least_of {l:List UInt8}(h:Ht l=true):M9 (be8 (PU l))=l:=by
 have hl:=least_len h;cases l with
 |nil=>cases h
 |cons a l=>
  rw[trim_be8 (8-(a::l).length) a l (by omega)];exact trim_id _ h
theorem sval_rng {l:List UInt8}(h:Ht l=true): -9223372036854775808≤PU l∧PU l≤9223372036854775807:=by
 have hl:=least_len h;have key: ∀(k:Nat) (a:UInt8) (l:List UInt8),(a::l).length+k=8→ -9223372036854775808≤PU (a::l)∧PU (a::l)≤9223372036854775807:=by
  intro k;induction k with
  |zero=>
   intro a l h;match l,h with
   | [a6,a5,a4,a3,a2,a1,a0],_=>
    have h6:=a6.toNat_lt; have h5:=a5.toNat_lt; have h4:=a4.toNat_lt; have h3:=a3.toNat_lt; have h2:=a2.toNat_lt; have h1:=a1.toNat_lt; have h0:=a0.toNat_lt;have h7:=WT a;have hs:PU [a,a6,a5,a4,a3,a2,a1,a0]=((((((s8 a*256+(a6.toNat:Int))*256+(a5.toNat:Int))*256+(a4.toNat:Int))*256+(a3.toNat:Int))*256+(a2.toNat:Int))*256+(a1.toNat:Int))*256+(a0.toNat:Int):=rfl;omega
  |succ k ih=>
   intro a l h;have h:l.length+1+(k+1)=8:=by simpa using h
   have:=ih (AaA a) (a::l) (by simp only[List.length_cons]; omega);rw[sval_sgn]at this;exact this
 cases l with
 |nil=>cases h
 |cons a l=>exact key (8-(a::l).length) a l (by omega)
theorem intI_of {x:g_api_Item}(ht:x.Tag=2)(hL:x.L=[])(h:Ht x.B=true):G1 (JS x.B)=x:=by
 have hr:=sval_rng h;have hne:x.B≠[]:=by intro q; rw[q]at h; cases h
 unfold G1;rw[Ms _ hne,BC hr.1 hr.2,least_of h];cases x;simp only at ht hL;rw[ht,hL]
end Go.Proofs.YtibojdgdjhngiaaGreatDoor
end
section
namespace Go.Proofs.YtibojdgdjhngiaaGreatDoor
open Go Go.Gw Go.Ax
def readP (x:g_api_Item):Option g_api_Promise:=if x.Tag=48∧mayB 8 x=true then(prom1 x.L).bind fun q=>if q.2=[]then some q.1 else none else none
abbrev BS:=Its×List g_api_Promise
def Du (r:Its)(a:List g_api_Promise):Option g_api_Promise→BS⊕(BS⊕Option (g_api_Cert×Am))
 |some p=> .inl (r,a++[p])
 |none=> .inr (.inr none)
def outA (a:List g_api_Promise):Option (List g_api_Promise)→BS⊕Option (g_api_Cert×Am)
 |some ps=> .inl ([],a++ps)
 |none=> .inr none
def allP:Its→Option (List g_api_Promise)
 | []=>some []
 |x::r=>(readP x).bind fun p=>(allP r).map fun l=>p::l
def few2D (l:Its):Prop:=VH l∧∀x∈l,VH x.L
def few3D (l:Its):Prop:=VH l∧∀x∈l,few2D x.L
theorem sub1_in {l q r:Its}(h:Ui l=some (q,r)): ∃x,l=x::r∧q=x.L∧x.Tag=48∧mayB 8 x=true:=by
 unfold Ui at h;cases l with
 |nil=>cases h
 |cons x l=>
  rw[Dd]at h;by_cases hx:x.Tag=48∧mayB 8 x=true
  ·rw[if_pos hx]at h;cases h;exact⟨x,rfl,rfl,hx.1,hx.2⟩
  ·rw[if_neg hx]at h; cases h
def withP (c:g_api_Cert)(ps:List g_api_Promise):g_api_Cert:=⟨c.Serial,c.Issuer,c.Subject,c.Key,c.Names,c.From,c.Until,c.Ca,c.Depth,c.Permit,ps,c.Sig⟩
def withS (c:g_api_Cert)(s:g_api_Sig):g_api_Cert:=⟨c.Serial,c.Issuer,c.Subject,c.Key,c.Names,c.From,c.Until,c.Ca,c.Depth,c.Permit,c.Proms,s⟩
def body1 (l:Its):Option (g_api_Cert×Its):=(Ui l).bind fun x1=>(Zy x1.1).bind fun x2=>(Ui x1.2).bind fun x3=>(allP x3.1).bind fun ps=>if x3.2=[]then some (withP x2.1 ps,[])else none
def whole1 (l:Its):Option (g_api_Cert×Its):=(Ui l).bind fun x1=>(body1 x1.1).bind fun x2=>(Ui x1.2).bind fun x3=>(Su x3.1).bind fun x4=>(Su x4.2).bind fun x5=>if x5.2=[]then(if x3.2=[]then some (withS x2.1 ⟨x4.1,x5.1⟩,[])else none)else none
theorem next1_in {α:Type}{tag:Int}{v:g_api_Item→α}{l r:Its}{a:α}(h:Jk tag v l=some (a,r)): ∃x,l=x::r∧x.Tag=tag∧mayB 8 x=true∧a=v x:=by
 cases l with
 |nil=>cases h
 |cons x l=>
  rw[Dd]at h;by_cases hx:x.Tag=tag∧mayB 8 x=true
  ·rw[if_pos hx]at h;cases h;exact⟨x,rfl,hx.1,hx.2,rfl⟩
  ·rw[if_neg hx]at h; cases h
theorem may_flat {x:g_api_Item}(h:mayB 8 x=true)(ht:x.Tag≠48):x.L=[]:=by
 simp only[mayB,Bool.and_eq_true,Bool.or_eq_true,beq_iff_eq]at h;rcases h.1.2 with q|q
 ·exact absurd q ht
 ·exact List.isEmpty_iff.1 q
theorem count_in {l r:Its}{n:Int}(h:D9 l=some (n,r)):l=G1 n::r∧0≤n∧n≤9223372036854775807:=by
 unfold D9 at h;cases hn:Jk 2 (fun x=>JS x.B) l with
 |none=>rw[hn]at h; cases h
 |some p=>
  obtain⟨m,q⟩:=p;rw[hn,Option.bind_some]at h;obtain⟨x,e1,e2,e3,e4⟩:=next1_in hn;by_cases h0:0≤m
  ·rw[if_pos h0]at h;cases h;have hk:=Lt e3;rw[e2]at hk;have hk:Ht x.B=true:=hk;have hI:=intI_of e2 (may_flat e3 (by rw[e2]; decide)) hk;have hr:=sval_rng hk;have hne:x.B≠[]:=by intro q; rw[q]at hk; cases hk
   have ev:JS x.B=PU x.B:=by rw[Ms _ hne,BC hr.1 hr.2]
   refine⟨by rw[e4,hI]; exact e1,h0,by rw[e4,ev]; exact hr.2⟩
  ·rw[if_neg h0]at h; cases h
theorem big_in {l r:Its}{n:UInt64}(h:Su l=some (n,r)):l=Jq n::r:=by
 unfold Su at h;cases hn:D9 l with
 |none=>rw[hn]at h; cases h
 |some p=>
  obtain⟨m,q⟩:=p;rw[hn]at h;cases h;obtain⟨e1,e2,e3⟩:=count_in hn;have hu:=SZ m;have hm:((toU m).toNat:Int)=m:=by omega
  unfold Jq;rw[hm,BC (by omega) e3];exact e1
theorem text_in {l r:Its}{s:ByteArray}(h:NN l=some (s,r)):l=EL s::r:=by
 obtain⟨x,e1,e2,e3,e4⟩:=next1_in h;have hL:=may_flat e3 (by rw[e2]; decide);rw[e1,e4];congr 1;cases x;simp only at e2 hL;rw[e2,hL];rfl
theorem bool_in {l r:Its}{v:Bool}(h:VO l=some (v,r)):l=LJ v::r:=by
 obtain⟨x,e1,e2,e3,e4⟩:=next1_in h;have hL:=may_flat e3 (by rw[e2]; decide);have hk:=Lt e3;rw[e2]at hk;have hk:Adi x.B=true:=hk;rw[e1,e4];congr 1;cases x with
 |mk t b ls=>
  simp only at e2 hL hk;rw[e2,hL];match b,hk with
  | [c],hk=>
   have hk:(c==0||c==255)=true:=hk;rw[Bool.or_eq_true,beq_iff_eq,beq_iff_eq]at hk;rcases hk with q|q<;>rw[q]<;>rfl
theorem seq_in {x:g_api_Item}(h1:x.Tag=48)(h2:mayB 8 x=true):x=JP x.L:=by
 have hk:=Lt h2;rw[h1]at hk;have hB:x.B=[]:=List.isEmpty_iff.1 hk;cases x;simp only at h1 hB;rw[h1,hB];rfl
theorem allT_in: ∀{l:Its} {t:List ByteArray},TY l=some t→l=t.map EL
 | [],t,h=>by cases h; rfl
 |x::l,t,h=>by
  unfold TY at h;by_cases hx:x.Tag=12∧mayB 8 x=true
  ·rw[if_pos hx]at h;cases ha:TY l with
   |none=>rw[ha]at h; cases h
   |some t'=>
    rw[ha]at h;cases h;have e:NN (x::l)=some (bs x.B,l):=by
     show Jk 12 (fun x=>bs x.B) (x::l)=_;rw[Dd,if_pos hx]
    have e2:=text_in e;rw[List.map_cons,←allT_in ha];exact e2
  ·rw[if_neg hx]at h; cases h
theorem texts_in {l r:Its}{t:List ByteArray}(h:IF l=some (t,r)):l=Gi t::r:=by
 unfold IF at h;cases hs:Ui l with
 |none=>rw[hs]at h; cases h
 |some p=>
  obtain⟨q,l1⟩:=p;rw[hs,Option.bind_some]at h;obtain⟨x,e1,e2,e3,e4⟩:=sub1_in hs;cases ha:TY q with
  |none=>rw[ha]at h; cases h
  |some t'=>
   rw[ha]at h;cases h;rw[e1,seq_in e3 e4,←e2,allT_in ha];rfl
theorem pre_in {l r:Its}{c:g_api_Cert}(h:Zy l=some (c,r)):l=(K5 c).L∧Km c=c:=by
 unfold Zy at h;cases h1:D9 l with
 |none=>rw[h1]at h; cases h
 |some p1=>
  obtain⟨x1,l1⟩:=p1;rw[h1,Option.bind_some]at h;cases h2:NN l1 with
  |none=>rw[h2]at h; cases h
  |some p2=>
   obtain⟨x2,l2⟩:=p2;rw[h2,Option.bind_some]at h;cases h3:NN l2 with
   |none=>rw[h3]at h; cases h
   |some p3=>
    obtain⟨x3,l3⟩:=p3;rw[h3,Option.bind_some]at h;cases h4:Su l3 with
    |none=>rw[h4]at h; cases h
    |some p4=>
     obtain⟨x4,l4⟩:=p4;rw[h4,Option.bind_some]at h;cases h5:IF l4 with
     |none=>rw[h5]at h; cases h
     |some p5=>
      obtain⟨x5,l5⟩:=p5;rw[h5,Option.bind_some]at h;cases h6:D9 l5 with
      |none=>rw[h6]at h; cases h
      |some p6=>
       obtain⟨x6,l6⟩:=p6;rw[h6,Option.bind_some]at h;cases h7:D9 l6 with
       |none=>rw[h7]at h; cases h
       |some p7=>
        obtain⟨x7,l7⟩:=p7;rw[h7,Option.bind_some]at h;cases h8:VO l7 with
        |none=>rw[h8]at h; cases h
        |some p8=>
         obtain⟨x8,l8⟩:=p8;rw[h8,Option.bind_some]at h;cases h9:D9 l8 with
         |none=>rw[h9]at h; cases h
         |some p9=>
          obtain⟨x9,l9⟩:=p9;rw[h9,Option.bind_some]at h;cases h10:IF l9 with
          |none=>rw[h10]at h; cases h
          |some p10=>
           obtain⟨x10,l10⟩:=p10;rw[h10,Option.bind_some]at h;by_cases he:l10=[]
           ·have h:some ((⟨x1,x2,x3,x4,x5,x6,x7,x8,x9,x10,[],⟨0,0⟩⟩:g_api_Cert),([]:Its))=some (c,r):=by rw[←h]; exact(if_pos he).symm
            have hc:=congrArg (·.1) (Option.some.inj h);have hc:(⟨x1,x2,x3,x4,x5,x6,x7,x8,x9,x10,[],⟨0,0⟩⟩:g_api_Cert)=c:=hc;rw[←hc];refine⟨?_,rfl⟩;rw[(count_in h1).1,text_in h2,text_in h3,big_in h4,texts_in h5,(count_in h6).1,(count_in h7).1,bool_in h8,(count_in h9).1,texts_in h10,he];rfl
           ·have h:(none:Option (g_api_Cert×Its))=some (c,r):=by rw[←h]; exact(if_neg he).symm
            cases h
end Go.Proofs.YtibojdgdjhngiaaGreatDoor
end
section
namespace Go.Proofs.YtibojdgdjhngiaaGreatDoor
open Go Go.Gw Go.Ax
theorem few_pre {c:g_api_Cert}(h:SA c):VH (K5 c).L:=by
 have hx: ∀x∈[G1 c.Serial,EL c.Issuer,EL c.Subject,Jq c.Key,Gi c.Names,G1 c.From,G1 c.Until,LJ c.Ca,G1 c.Depth,Gi c.Permit],x.L.length≤100000:=by
  intro x hx;simp only[List.mem_cons,List.not_mem_nil,or_false]at hx;rcases hx with q|q|q|q|q|q|q|q|q|q<;>rw[q]
  ·exact Nat.zero_le _
  ·exact Nat.zero_le _
  ·exact Nat.zero_le _
  ·exact Nat.zero_le _
  ·show(c.Names.map EL).length≤_;rw[List.length_map]; have:=h.few; omega
  ·exact Nat.zero_le _
  ·exact Nat.zero_le _
  ·exact Nat.zero_le _
  ·exact Nat.zero_le _
  ·show(c.Permit.map EL).length≤_;rw[List.length_map]; have:=h.fewP; omega
 exact hx
theorem preR_ok {c:g_api_Cert}(h:Okc c):Co ⟨(K5 c).L⟩=some (some (Km c,⟨[]⟩)):=by
 rw[preR_eq (few_pre h.form.sized),pre_pre h.form.nums (may_le (by decide) (may_pre h))];rfl
theorem in_ok {l:Its}(h:mayB 8 (JP l)=true)(hl:l.length≤100000):GC (JP l)=some (some ⟨l⟩):=by
 unfold GC;rw[QW (x:=JP l) hl,if_pos (show(JP l).Tag=48 from rfl),if_pos h];rfl
theorem mustE {x:Int}{n:Nat}(h:x=(n:Int)):Bc (x==(n:Int))=some (some ()):=by
 rw[h,beq_self_eq_true]; rfl
theorem cGetPre_ok {c:g_api_Cert}(h:Okc c):C5 (preBy c)=some (Km c,0):=by
 have hl:(putB 8 (K5 c)).length≤2048:=pre_le h;have hm:mayB 8 (K5 c)=true:=may_le (by decide) (may_pre h);have e0:=Get_put [] hm (by omega) (by decide);rw[List.append_nil]at e0;unfold C5 FJ DT;rw[show preBy c=putB 8 (K5 c)from rfl,e0,Ab,if_neg (by simp)];show Ad (Ad (Ad (Bc (((putB 8 (K5 c)).length:Int)==((putB 8 (K5 c)).length:Int))) _) _) _=_;rw[mustE rfl,Ab];show Ad (Ad (Ad (GC (K5 c)) _) _) _=_;rw[show K5 c=JP (K5 c).L from rfl,in_ok (l:=(K5 c).L) hm (by show(10:Nat)≤_; decide),Ab];show Ad (Ad (Ad (Co ⟨(K5 c).L⟩) _) _) _=_;rw[preR_ok h,Ab];show Ad (Ad (Ad (D7 (Km c)) _) _) _=_;rw[LG,(ok_bareP h).chk];rfl
end Go.Proofs.YtibojdgdjhngiaaGreatDoor
end
section
namespace Go.Proofs.YtibojdgdjhngiaaGreatDoor
open Go Go.Gw Go.Ax
def Ym (l:List g_api_Cert):Bool:=Yk l&&decide ((l.length:Int)≤12)
theorem few30_eq (l:List g_api_Cert):Ih l=some (Ym l):=by
 unfold Ih;rw[Ac3,Ab,YI];rfl
def l0:Ak:=⟨0,615761422827751315,20,[],[],[]⟩
theorem new30:Ks 0 ([108,111,103]:List UInt8) 20=some (l0,0):=by kernel_rfl
theorem l0_ok:(Y4 l0,l0.Id,l0.Delay)=(true,0,20):=by decide
theorem l0_L:l0.L=[]:=rfl
theorem l0_W:l0.Wait=[]:=rfl
theorem l0_H:l0.Hide=[]:=rfl
theorem l0_chk:chk l0=0:=YD (congrArg (·.1) l0_ok) (by rw[l0_L,l0_W]; rfl) (by rw[l0_H]; rfl) (by rw[l0_L,l0_W]; exact Nat.zero_le _)
theorem add_three {l:Ak}{b:List UInt8}{now:Int}(hl:l.L.length+l.Wait.length≤100000)(h:chk l=0):
  (∃w∈l.L++l.Wait,w.Body=b∧B8 l b now=some (l,Ji l w.At b,0))∨(B8 l b now=some (Q5 l b now,Ji l now b,0)∧chk (Q5 l b now)=0)∨∃e,e≠0∧B8 l b now=some (AbF,AbE,e):=by
 cases ha:(okBody b&&okNum now)with
 |false=>exact .inr (.inr ⟨1,by decide,Adq hl h ha⟩)
 |true=>
  cases hj:findB (l.L++l.Wait) b 0 with
  |some j=>
   obtain⟨x,h1,h2,h3⟩:=VF hj;rw[Nat.sub_zero]at h2;exact .inl ⟨x,List.mem_of_getElem? h2,h3,Of hl h ha hj h2⟩
  |none=>
   by_cases hn:(l.L++l.Wait).length=256
   ·exact .inr (.inr ⟨2,by decide,Aaw hl h ha hj hn⟩)
   ·exact .inr (.inl ⟨Adp hl h ha hj hn,YC h ha hj hn⟩)
theorem pre_two (c:g_api_Cert):(checkV c=0∧EJ c=some (preBy c,0))∨(checkV c≠0∧EJ c=some ([],checkV c)):=by
 by_cases h:checkV c=0
 ·exact .inl ⟨h,cPre_eq (okc h)⟩
 ·exact .inr ⟨h,cPre_not h⟩
structure TI (l:List g_api_Cert)(now:Int)(i:Nat)(ps:List g_api_Promise)(x:Ak):Prop where
 ok:chk x=0
 Id:x.Id=0
 Delay:x.Delay=20
 L:x.L=[]
 Hide:x.Hide=[]
 few:x.Wait.length≤i
 wait: ∀w∈x.Wait,w.At=now∧∃c∈l,checkV c=0∧w.Body=preBy c
 all: ∀(j:Nat) (c:g_api_Cert),j<i→l[j]? =some c→checkV c=0∧∃w∈x.Wait,w.Body=preBy c
 len:ps.length=i
 prom: ∀p∈ps,p.Log=0∧p.At=now∧∃w∈x.Wait,p.Leaf=pleaf w.Body
abbrev TS:=List g_api_Promise×Int×Int×UInt64×Int×List g_api_Leaf×List Int×List g_api_Leaf
def stT (ps:List g_api_Promise)(i:Int)(x:Ak):TS:=(ps,i,x.Id,x.Key,x.Delay,x.L,x.Hide,x.Wait)
theorem taken_step {l:List g_api_Cert}{now:Int}{i:Nat}{ps:List g_api_Promise}{x:Ak}{c:g_api_Cert}(hl:l.length≤1000)(hx:l[i]? =some c)(T:TI l now i ps x):
  AP l now (l0,0) (stT ps (i:Int) x)=some (.inr (.inr (x,ps,false)))∨
  ∃ps' x',AP l now (l0,0) (stT ps (i:Int) x)=some (.inl (stT ps' ((i+1:Nat):Int) x'))∧TI l now (i+1) ps' x':=by
 have hi:=(List.getElem?_eq_some_iff.1 hx).1;have hlen:x.L.length+x.Wait.length≤100000:=by have:=T.few; rw[T.L]; simp; omega
 have hp:ps.length≤1000000:=by have:=T.len; omega
 have hw:w64 ((i:Int)+1)=((i+1:Nat):Int):=IE hi (by omega);have unf:AP l now (l0,0) (stT ps (i:Int) x)=Ad (EJ c) fun x5=>Ad (B8 x x5.1 now) fun x6=>
   if(((0:Int) !=0||x5.2 !=0)||x6.2.2 !=0)=true then some (.inr (.inr (x,ps,false)))else
   Ad (app 48 ps [x6.2.1]) fun x7=>some (.inl (stT x7 ((i+1:Nat):Int) x6.1)):=by
  unfold AP stT;dsimp only;rw[NZ hi,if_pos rfl,Er hx,Ab,hw]
 rw[unf];clear hw unf;rcases pre_two c with ⟨hc,e⟩|⟨hc,e⟩
 ·rw[e,Ab];dsimp only;have hcm:c∈l:=List.mem_of_getElem? hx;rcases add_three (l:=x) (b:=preBy c) (now:=now) hlen T.ok with ⟨w,h1,h2,h3⟩|⟨h3,h4⟩|⟨er,h1,h3⟩
  ·rw[h3,Ab];dsimp only;rw[if_neg (by decide),app1 hp (by decide) (by decide),Ab];rw[T.L,List.nil_append]at h1;refine .inr ⟨ps++[Ji x w.At (preBy c)],x,rfl,⟨T.ok,T.Id,T.Delay,T.L,T.Hide,by have:=T.few; omega,T.wait,fun j d hj hd=> ?_,by rw[List.length_append,T.len]; rfl,fun p hp=> ?_⟩⟩
   ·by_cases hji:j<i
    ·exact T.all j d hji hd
    ·have:j=i:=by omega
     subst this;rw[hx]at hd; cases hd;exact⟨hc,w,h1,h2⟩
   ·rcases List.mem_append.1 hp with q|q
    ·exact T.prom p q
    ·rw[List.mem_singleton]at q;subst q;exact⟨T.Id,(T.wait w h1).1,w,h1,by rw[h2]; rfl⟩
  ·rw[h3,Ab];dsimp only;rw[if_neg (by decide),app1 hp (by decide) (by decide),Ab];refine .inr ⟨ps++[Ji x now (preBy c)],Q5 x (preBy c) now,rfl,⟨h4,T.Id,T.Delay,T.L,T.Hide,by have:=T.few; show(x.Wait++[(⟨preBy c,now⟩:g_api_Leaf)]).length≤_; rw[List.length_append]; simp only[List.length_singleton]; omega,fun w hw=> ?_,fun j d hj hd=> ?_,by rw[List.length_append,T.len]; rfl,fun p hp=> ?_⟩⟩
   ·rcases List.mem_append.1 hw with q|q
    ·exact T.wait w q
    ·rw[List.mem_singleton]at q;subst q;exact⟨rfl,c,hcm,hc,rfl⟩
   ·by_cases hji:j<i
    ·obtain⟨a,w,b1,b2⟩:=T.all j d hji hd;exact⟨a,w,List.mem_append_left _ b1,b2⟩
    ·have:j=i:=by omega
     subst this;rw[hx]at hd; cases hd;exact⟨hc,⟨preBy c,now⟩,List.mem_append_right _ (List.mem_singleton.2 rfl),rfl⟩
   ·rcases List.mem_append.1 hp with q|q
    ·obtain⟨a1,a2,w,b1,b2⟩:=T.prom p q;exact⟨a1,a2,w,List.mem_append_left _ b1,b2⟩
    ·rw[List.mem_singleton]at q;subst q;exact⟨T.Id,rfl,⟨preBy c,now⟩,List.mem_append_right _ (List.mem_singleton.2 rfl),rfl⟩
  ·rw[h3,Ab];dsimp only;rw[if_pos (show((0:Int) !=0||(0:Int) !=0||er !=0)=true by rw[bne_iff_ne.2 h1]; rfl)];exact .inl rfl
 ·rw[e,Ab];dsimp only;obtain⟨r,hr⟩: ∃r,B8 x [] now=some r:=by
   rcases add_three (l:=x) (b:=[]) (now:=now) hlen T.ok with ⟨w,h1,h2,h3⟩|⟨h3,h4⟩|⟨er,h1,h3⟩
   ·exact⟨_,h3⟩
   ·exact⟨_,h3⟩
   ·exact⟨_,h3⟩
  rw[hr,Ab,if_pos (show((0:Int) !=0||checkV c !=0||r.2.2 !=0)=true by rw[bne_iff_ne.2 hc]; rfl)];exact .inl rfl
theorem taken_loop {l:List g_api_Cert}{now:Int}(hl:l.length≤1000): ∀(k i n:Nat) (ps:List g_api_Promise) (x:Ak),i+k=l.length→k<n→TI l now i ps x→
  (∃ps' x',iter (AP l now (l0,0)) n (stT ps (i:Int) x)=some (.inr (x',ps',false)))∨
  ∃ps' x',iter (AP l now (l0,0)) n (stT ps (i:Int) x)=some (.inl (ps',x'.Id,x'.Key,x'.Delay,x'.L,x'.Hide,x'.Wait))∧TI l now l.length ps' x'
 |0,i,n,ps,x,h,hn,T=>by
  obtain⟨n,rfl⟩: ∃q,n=q+1:=⟨n-1,by omega⟩;have h:i=l.length:=by omega
  subst h;refine .inr ⟨ps,x,?_,T⟩;show Ad (AP l now (l0,0) (stT ps (l.length:Int) x)) _=_;have:AP l now (l0,0) (stT ps (l.length:Int) x)=some (.inr (.inl (ps,x.Id,x.Key,x.Delay,x.L,x.Hide,x.Wait))):=by
   unfold AP stT;dsimp only;rw[KX,if_neg (by decide)]
  rw[this]; rfl
 |k+1,i,n,ps,x,h,hn,T=>by
  obtain⟨n,rfl⟩: ∃q,n=q+1:=⟨n-1,by omega⟩;have hi:i<l.length:=by omega
  have hx:l[i]? =some l[i]:=List.getElem?_eq_getElem hi;rcases taken_step hl hx T with e|⟨ps',x',e,T'⟩
  ·refine .inl ⟨ps,x,?_⟩;show Ad (AP l now (l0,0) (stT ps (i:Int) x)) _=_;rw[e]; rfl
  ·have ih:=taken_loop hl k (i+1) n ps' x' (by omega) (by omega) T';have e2:iter (AP l now (l0,0)) (n+1) (stT ps (i:Int) x)=iter (AP l now (l0,0)) n (stT ps' ((i+1:Nat):Int) x'):=by
    show Ad (AP l now (l0,0) (stT ps (i:Int) x)) _=_;rw[e]; rfl
   rw[e2]; exact ih
theorem taken_two {l:List g_api_Cert}(now:Int)(hl:l.length≤1000):
  (∃ps x,DD l now=some (x,ps,false))∨∃ps x,DD l now=some (x,ps,true)∧TI l now l.length ps x:=by
 have T0:TI l now 0 [] l0:=⟨l0_chk,congrArg (·.2.1) l0_ok,congrArg (·.2.2) l0_ok,l0_L,l0_H,by rw[l0_W]; exact Nat.zero_le _,fun w hw=>(by rw[l0_W]at hw; cases hw),fun j c hj=>absurd hj (Nat.not_lt_zero j),rfl,fun p hp=>absurd hp (List.not_mem_nil)⟩;have h:=taken_loop hl l.length 0 C3 [] l0 (by omega) (by have:(1000001:Nat)≤C3:=Nat.le_of_ble_eq_true rfl; omega) T0;unfold DD;rw[new30,Ab];rcases h with ⟨ps',x',e⟩|⟨ps',x',e,T⟩
 ·refine .inl ⟨ps',x',?_⟩;have e':iter (AP l now (l0,0)) C3 ([],0,l0.Id,l0.Key,l0.Delay,l0.L,l0.Hide,l0.Wait)=_:=e;dsimp only;rw[e',Ab]
 ·refine .inr ⟨ps',x',?_,T⟩;have e':iter (AP l now (l0,0)) C3 ([],0,l0.Id,l0.Key,l0.Delay,l0.L,l0.Hide,l0.Wait)=_:=e;dsimp only;rw[e',Ab];rfl
theorem TI.bodies {l:List g_api_Cert}{now:Int}{i:Nat}{ps:List g_api_Promise}{x:Ak}(T:TI l now i ps x)(hi:i≤1000):x.L.length+x.Wait.length≤100000:=by have:=T.few; rw[T.L]; simp; omega
end Go.Proofs.YtibojdgdjhngiaaGreatDoor
end
section
namespace Go.Proofs.YtibojdgdjhngiaaGreatDoor
open Go Go.Gw Go.Ax
theorem okH_cons {x:Int}{r:List Int}{last n:Int}:okH (x::r) last n=true↔last<x∧x<n∧okH r x n=true:=by
 show((!decide (x≤last)&& !decide (n≤x))&&okH r x n)=true↔_;rw[Bool.and_eq_true,Bool.and_eq_true];simp only[Bool.not_eq_true',decide_eq_false_iff_not,Int.not_le];exact and_assoc
theorem okH_all: ∀{xs:List Int} {last n:Int},okH xs last n=true→(∀x∈xs,last<x∧x<n)∧xs.Pairwise (· < ·):=by
 intro xs;induction xs with
 |nil=>intro last n _; exact⟨fun x hx=>absurd hx (by simp),List.Pairwise.nil⟩
 |cons y xs ih=>
  intro last n h;obtain⟨h1,h2,h3⟩:=okH_cons.1 h;obtain⟨i1,i2⟩:=ih h3;refine⟨fun x hx=> ?_,List.Pairwise.cons (fun a ha=>(i1 a ha).1) i2⟩;rcases List.mem_cons.1 hx with rfl|hx
  ·exact⟨h1,h2⟩
  ·have:=i1 x hx; omega
theorem nan_eq (x:Int):CU x=some false:=by unfold CU; rw[bne_self_eq_false]
theorem less_eq (x y:Int):FI x y=some (decide (x<y)):=by
 unfold FI E5;rw[bne_self_eq_false,Ab,show gu false (some (y !=y))=some false from rfl,Ab,DM,show(false&& !false)=false from rfl,Bool.false_or]
theorem mid_eq {i j:Nat}(h:i+j≤1000000):w64 ((Ec (toU (w64 ((i:Int)+(j:Int)))) 1).toNat:Int)=(((i+j)/2:Nat):Int):=by
 rw[D4 (n:=(i:Int)+(j:Int)) (by omega) (by omega),show(i:Int)+(j:Int)=((i+j:Nat):Int)from by omega,EH _ _ (by decide),Rw (by omega),D4 (by omega) (by omega)]
theorem search_eq {xs:List Int}{t:Int}(hn:xs.length≤100000)(p:Nat)(hp:p≤xs.length)(h1: ∀(k:Nat) (x:Int),xs[k]? =some x→k<p→x<t)(h2: ∀(k:Nat) (x:Int),xs[k]? =some x→p≤k→t≤x):
  Bl xs t=some ((p:Int),decide (xs[p]? =some t)):=by
 obtain⟨y,e1,e2⟩:=XY (step:=Bz xs t) (T:=fun y=>y=(p:Int)) (s0:=(0,(xs.length:Int))) (fun c s=> ∃i j:Nat,s=((i:Int),(j:Int))∧i≤p∧p≤j∧j≤xs.length∧j-i+c≤xs.length) xs.length (by omega)
  ⟨0,xs.length,rfl,by omega,hp,by omega,by omega⟩ (by
   rintro c s hc ⟨i,j,rfl,i1,i2,i3,i4⟩;unfold Bz;dsimp only;by_cases hij:i<j
   ·right;have hm:(i+j)/2<xs.length:=by omega
    rw[if_pos (by simpa using hij),mid_eq (by omega),DM,Abc hm,Ab,less_eq,Ab];have hx:xs[(i+j)/2]? =some xs[(i+j)/2]:=by simp[hm]
    by_cases hlt:xs[(i+j)/2]<t
    ·rw[if_pos (by simpa using hlt),Zd (by omega)];have:(i+j)/2<p:=by
      by_cases hq:p≤(i+j)/2
      ·have:=h2 _ _ hx hq; omega
      ·omega
     exact⟨by omega,_,rfl,(i+j)/2+1,j,rfl,by omega,i2,i3,by omega⟩
    ·rw[if_neg (by simpa using hlt)];have:p≤(i+j)/2:=by
      by_cases hq:(i+j)/2<p
      ·exact absurd (h1 _ _ hx hq) hlt
      ·omega
     exact⟨by omega,_,rfl,i,(i+j)/2,rfl,i1,this,by omega,by omega⟩
   ·left;rw[if_neg (by simpa using hij)];exact⟨_,rfl,by omega⟩)
 subst e2;unfold Bl;rw[e1,Ab,Ab];by_cases hlt:p<xs.length
 ·have hd:decide (((p:Nat):Int)<(xs.length:Int))=true:=decide_eq_true (by omega);have hx:xs[p]? =some xs[p]:=by simp[hlt]
  rw[hd,Abc hlt,hx,show gu true (some xs[p])=some xs[p]from rfl,Ab];by_cases he:xs[p]=t
  ·have:(xs[p]==t)=true:=by simpa using he
   rw[this]; simp[he,gu,DM]
  ·have:(xs[p]==t)=false:=by simpa using he
   rw[this]; simp[he,gu,DM,nan_eq]
 ·have hd:decide (((p:Nat):Int)<(xs.length:Int))=false:=decide_eq_false (by omega);have hx:xs[p]? =none:=by simp; omega
  rw[hd,hx]; simp[gu,DM]
end Go.Proofs.YtibojdgdjhngiaaGreatDoor
end
section
namespace Go.Proofs.YtibojdgdjhngiaaGreatDoor
open Go Go.Gw Go.Ax
theorem toB_back (c:UInt8):toB (c.toNat:Int)=c:=by
 apply UInt8.toNat_inj.1;have h:=Jt (c.toNat:Int);have:=c.toNat_lt;omega
theorem len_some (l:List UInt8)(hl:l.length≤1000000): ∃n long e:Int,BI l=some (n,long,e)∧(e=0→∃(k:Nat) (r:List UInt8),k<65536∧l=EG k++r∧n=(k:Int)∧long=((EG k).length:Int)):=by
 match l with
 | []=>exact⟨0,0,70,rfl,fun h=>by omega⟩
 |b::r=>
  have e0:(((b::r).length:Int)==0)=false:=by simp only[beq_eq_false_iff_ne,List.length_cons]; omega
  have hb:=b.toNat_lt;have e1:w64 (b.toNat:Int)=(b.toNat:Int):=BC (by omega) (by omega);by_cases h1:b.toNat<128
  ·refine⟨(b.toNat:Int),1,0,fst1 b r h1,fun _=>⟨b.toNat,r,by omega,?_,rfl,?_⟩⟩
   ·unfold EG;rw[if_pos h1,toB_back];rfl
   ·unfold EG;rw[if_pos h1];rfl
  by_cases h2:b.toNat=129
  ·have hbe:b=129:=UInt8.toNat_inj.1 h2;subst hbe;match r with
   | []=>
    refine⟨0,0,70,?_,fun h=>by omega⟩;unfold BI;have f1:w64 (((129:UInt8).toNat:Int))=129:=BC (x:=129) (by decide) (by decide);have f2:w64 ((129:Int)-128)=1:=rfl;have f4:decide ((([129]:List UInt8).length:Int)≤1)=true:=by simp
    rw[e0,R8,if_neg (by decide),Ab,f1,if_neg (by decide),B4,f2,B4,if_neg (by decide),B4,f4,if_pos rfl]
   |c::r=>
    have hc:=c.toNat_lt;by_cases h3:128≤c.toNat
    ·refine⟨(c.toNat:Int),2,0,fst2 c r h3,fun _=>⟨c.toNat,r,by omega,?_,rfl,?_⟩⟩
     ·unfold EG;rw[if_neg (by omega),if_pos (by omega),toB_back];rfl
     ·unfold EG;rw[if_neg (by omega),if_pos (by omega)];rfl
    ·refine⟨0,0,71,?_,fun h=>by omega⟩;unfold BI;have f1:w64 (((129:UInt8).toNat:Int))=129:=BC (x:=129) (by decide) (by decide);have f2:w64 ((129:Int)-128)=1:=rfl;have f3:w64 ((1:Int)+1)=2:=rfl;have f4:decide (((129::c::r).length:Int)≤1)=false:=by simp only[decide_eq_false_iff_not,List.length_cons]; omega
     have f5:cut (129::c::r) 1 2=some [c]:=QK 129 [c] r;have f6:Oz (Iy 0 8) (w64 (c.toNat:Int))=(c.toNat:Int):=by
      rw[BC (x:=(c.toNat:Int)) (by omega) (by omega),KV 0 _ (by omega) (by omega),Int.zero_mul,Int.zero_add,BC (by omega) (by omega)]
     have f7:CC Dl [c] 0 0=some (c.toNat:Int):=by
      show some (Oz (Iy 0 8) (w64 (c.toNat:Int)))=_;rw[f6]
     have f8:decide ((c.toNat:Int)<128)=true:=by simp only[decide_eq_true_eq]; omega
     rw[e0,R8,if_neg (by decide),Ab,f1,if_neg (by decide),B4,f2,B4,if_neg (by decide),B4,f4,if_neg (by decide),f3,f5,Ab,f7,Ab,Ab,f8,if_pos (by simp)]
  by_cases h3:b.toNat=130
  ·have hbe:b=130:=UInt8.toNat_inj.1 h3;subst hbe;have f1:w64 (((130:UInt8).toNat:Int))=130:=BC (x:=130) (by decide) (by decide);have f2:w64 ((130:Int)-128)=2:=rfl;have f3:w64 ((2:Int)+1)=3:=rfl;match r with
   | []=>
    refine⟨0,0,70,?_,fun h=>by omega⟩;unfold BI;have f4:decide ((([130]:List UInt8).length:Int)≤2)=true:=by simp
    rw[e0,R8,if_neg (by decide),Ab,f1,if_neg (by decide),B4,f2,B4,if_neg (by decide),B4,f4,if_pos rfl]
   | [c]=>
    refine⟨0,0,70,?_,fun h=>by omega⟩;unfold BI;have f4:decide (((130::[c]:List UInt8).length:Int)≤2)=true:=by simp
    rw[e0,R8,if_neg (by decide),Ab,f1,if_neg (by decide),B4,f2,B4,if_neg (by decide),B4,f4,if_pos rfl]
   |c::d::r=>
    have hc:=c.toNat_lt;have hd:=d.toNat_lt;by_cases h4:1≤c.toNat
    ·refine⟨(c.toNat:Int)*256+(d.toNat:Int),3,0,fst3 c d r h4,fun _=>⟨c.toNat*256+d.toNat,r,by omega,?_,by omega,?_⟩⟩
     ·unfold EG;rw[if_neg (by omega),if_neg (by omega),Te];have q1:(((c.toNat*256+d.toNat:Nat):Int)/256)=(c.toNat:Int):=by omega
      have q2:toB ((c.toNat*256+d.toNat:Nat):Int)=d:=by
       apply UInt8.toNat_inj.1;have:=Jt ((c.toNat*256+d.toNat:Nat):Int);omega
      rw[q1,toB_back,q2];rfl
     ·unfold EG;rw[if_neg (by omega),if_neg (by omega)];rfl
    ·refine⟨0,0,71,?_,fun h=>by omega⟩;unfold BI;have f4:decide (((130::c::d::r).length:Int)≤2)=false:=by simp only[decide_eq_false_iff_not,List.length_cons]; omega
     have f5:cut (130::c::d::r) 1 3=some [c,d]:=QK 130 [c,d] r;have f6:Oz (Iy 0 8) (w64 (c.toNat:Int))=(c.toNat:Int):=by
      rw[BC (x:=(c.toNat:Int)) (by omega) (by omega),KV 0 _ (by omega) (by omega),Int.zero_mul,Int.zero_add,BC (by omega) (by omega)]
     have f6':Oz (Iy (c.toNat:Int) 8) (w64 (d.toNat:Int))=(c.toNat:Int)*256+(d.toNat:Int):=by
      rw[BC (x:=(d.toNat:Int)) (by omega) (by omega),KV _ _ (by omega) (by omega),BC (by omega) (by omega)]
     have f7:CC Dl [c,d] 0 0=some ((c.toNat:Int)*256+(d.toNat:Int)):=by
      show some (Oz (Iy (Oz (Iy 0 8) (w64 (c.toNat:Int))) 8) (w64 (d.toNat:Int)))=_;rw[f6,f6']
     have f9:decide ((c.toNat:Int)*256+(d.toNat:Int)<256)=true:=by simp only[decide_eq_true_eq]; omega
     rw[e0,R8,if_neg (by decide),Ab,f1,if_neg (by decide),B4,f2,B4,if_neg (by decide),B4,f4,if_neg (by decide),f3,f5,Ab,f7,Ab,Ab,f9,if_pos (by simp)]
  ·refine⟨0,0,71,?_,fun h=>by omega⟩;unfold BI;have f1:decide ((b.toNat:Int)<128)=false:=by simp only[decide_eq_false_iff_not]; omega
   have f2:(((b.toNat:Int) !=129)&&((b.toNat:Int) !=130))=true:=by
    rw[Bool.and_eq_true,bne_iff_ne,bne_iff_ne]; omega
   rw[e0,R8,if_neg (by decide),Ab,e1,f1,if_neg (by decide),B4,B4,f2,if_pos rfl]
def GotI (D:Nat)(b:List UInt8)(q:g_api_Item×List UInt8×Int):Prop:=q.2.2=0→mayB D q.1=true∧b=putB D q.1++q.2.1
theorem got_loop (rF:List UInt8→Int→Option (g_api_Item×List UInt8×Int))(D:Nat)(hD:D≤100)(r0:List UInt8)(hF: ∀b:List UInt8,b.length≤1000000→∃q,rF b (D:Int)=some q∧GotI D b q):
  ∀(m:Nat) (inb:List UInt8) (acc:List g_api_Item) (n:Nat),inb.length≤m→m<n→m≤1000000→acc.length+m≤1000000→
   ∃t,iter (Bp rF ((D+1:Nat):Int)) n (r0,inb,acc)=some t∧(t= .inr ((⟨0,[],[]⟩:g_api_Item),([]:List UInt8),71)∨∃l,t= .inl (r0,acc++l)∧(∀y∈l,mayB D y=true)∧l.flatMap (putB D)=inb)
 |m,inb,acc,0,_,h,_,_=>by omega
 |m,[],acc,n+1,_,_,_,_=>by
  refine⟨.inl (r0,acc),?_,.inr ⟨[],by simp,fun y hy=>(by cases hy),rfl⟩⟩;have e:Bp rF ((D+1:Nat):Int) (r0,[],acc)=some (.inr (.inl (r0,acc))):=rfl;show Ad (Bp rF ((D+1:Nat):Int) (r0,[],acc)) _=_;rw[e]; rfl
 |m,c::inb,acc,n+1,hm,hn,h1,h2=>by
  have hw:w64 (((D+1:Nat):Int)-1)=(D:Int):=by rw[BC (by omega) (by omega)]; omega
  obtain⟨⟨y,r,e⟩,hq,hg⟩:=hF (c::inb) (by omega);have e0:decide (((c::inb).length:Int)>0)=true:=by rw[decide_eq_true_eq,List.length_cons]; omega
  by_cases he:e=0
  ·subst he;obtain⟨g1,g2⟩:=hg rfl;have g1:mayB D y=true:=g1;have g2:c::inb=putB D y++r:=g2;have hp:=Tk g1;have hlen:(c::inb).length=(putB D y).length+r.length:=by rw[g2,List.length_append]
   rw[List.length_cons]at hm hlen;obtain⟨t,ht,hc⟩:=got_loop rF D hD r0 hF (m-1) r (acc++[y]) n (by omega) (by omega) (by omega) (by rw[List.length_append]; show acc.length+1+_≤_; omega);refine⟨t,?_,?_⟩
   ·have es:Bp rF ((D+1:Nat):Int) (r0,c::inb,acc)=some (.inl (r0,r,acc++[y])):=by
     unfold Bp;show(if decide (((c::inb).length:Int)>0)=true then _ else _)=_;rw[e0,if_pos rfl,hw];show Ad (rF (c::inb) (D:Int)) _=_;rw[hq,Ab,if_neg (by simp)];show Ad (app 56 acc [y]) _=_;rw[LK 56 (by show(acc.length+1)*56≤_; omega) (by show acc.length+1≤_; omega)];rfl
    show Ad (Bp rF ((D+1:Nat):Int) (r0,c::inb,acc)) _=_;rw[es];exact ht
   ·rcases hc with hc|⟨l,c1,c2,c3⟩
    ·exact .inl hc
    ·refine .inr ⟨y::l,?_,?_,?_⟩
     ·rw[c1,List.append_assoc]; rfl
     ·intro z hz;rcases List.mem_cons.1 hz with q|q
      ·rw[q]; exact g1
      ·exact c2 z q
     ·rw[List.flatMap_cons,c3,g2]
  ·refine⟨.inr ((⟨0,[],[]⟩:g_api_Item),([]:List UInt8),71),?_,.inl rfl⟩;have es:Bp rF ((D+1:Nat):Int) (r0,c::inb,acc)=some (.inr (.inr ((⟨0,[],[]⟩:g_api_Item),([]:List UInt8),71))):=by
    unfold Bp;show(if decide (((c::inb).length:Int)>0)=true then _ else _)=_;rw[e0,if_pos rfl,hw];show Ad (rF (c::inb) (D:Int)) _=_;rw[hq,Ab,if_pos (by simpa using he)]
   show Ad (Bp rF ((D+1:Nat):Int) (r0,c::inb,acc)) _=_;rw[es]; rfl
theorem cut_all {α:Type}(l:List α)(k:Nat)(h:k≤l.length):cut l 0 (k:Int)=some (l.take k)∧cut l (k:Int) (l.length:Int)=some (l.drop k):=by
 have e:=List.take_append_drop k l;have h1:=QL (l.take k) (l.drop k);have h2:=QM (l.take k) (l.drop k);rw[e]at h1 h2;rw[show(l.take k).length=k from by rw[List.length_take]; omega]at h1 h2;exact⟨h1,h2⟩
theorem got_eq (D:Nat): ∀(n:Nat) (b:List UInt8),D≤100→D<n→b.length≤1000000→∃q,Ev n b (D:Int)=some q∧GotI D b q:=by
 induction D with
 |zero=>
  intro n b _ hn hb;obtain⟨n,rfl⟩: ∃k,n=k+1:=⟨n-1,by omega⟩;show∃q,En (Ev n) b 0=some q∧_;unfold En;cases b with
  |nil=>exact⟨_,rfl,fun h=>by cases h⟩
  |cons c b=>
   have e0:(((c::b).length:Int)==0)=false:=by simp only[beq_eq_false_iff_ne,List.length_cons]; omega
   rw[e0,if_neg (by decide),R8,Ab];cases hk:JR (w64 (c.toNat:Int))with
   |false=>
    rw[(Ga hk).1,Ab,if_pos (by simp)];exact⟨_,rfl,fun h=>by cases h⟩
   |true=>
    obtain⟨k,e,_,_⟩:=Jo hk;rw[e,Ab,if_pos (by simp)];exact⟨_,rfl,fun h=>by cases h⟩
 |succ D IH=>
  intro n b hD hn hb;obtain⟨n,rfl⟩: ∃k,n=k+1:=⟨n-1,by omega⟩;have hF: ∀b:List UInt8,b.length≤1000000→∃q,Ev n b (D:Int)=some q∧GotI D b q:=fun b h=>IH n b (by omega) (by omega) h;show∃q,En (Ev n) b ((D+1:Nat):Int)=some q∧_;unfold En;cases b with
  |nil=>exact⟨_,rfl,fun h=>by cases h⟩
  |cons c b=>
   have e0:(((c::b).length:Int)==0)=false:=by simp only[beq_eq_false_iff_ne,List.length_cons]; omega
   have hc:=c.toNat_lt;have ew:w64 (c.toNat:Int)=(c.toNat:Int):=BC (by omega) (by omega);have eD:decide (((D+1:Nat):Int)<1)=false:=by rw[decide_eq_false_iff_not]; omega
   rw[e0,if_neg (by decide),R8,Ab,ew,eD];cases hk:JR (c.toNat:Int)with
   |false=>
    rw[(Ga hk).1,Ab,if_pos (by simp)];exact⟨_,rfl,fun h=>by cases h⟩
   |true=>
    obtain⟨k,e,ht,hm⟩:=Jo hk;rw[e,Ab,if_neg (by simp),MN,Ab];rw[List.length_cons]at hb;obtain⟨ln,long,le,hl,hl0⟩:=len_some b (by omega);rw[hl,Ab];by_cases hle:le=0;rotate_left
    ·rw[if_pos (by simpa using hle)];exact⟨_,rfl,fun h=>absurd h hle⟩
    subst hle;rw[if_neg (by simp)];obtain⟨z,r,hz,hb2,rfl,rfl⟩:=hl0 rfl;have hll:=Ng z;have hbl:b.length=(EG z).length+r.length:=by rw[hb2,List.length_append]
    have e4:w64 (w64 (1+((EG z).length:Int))+(z:Int))=1+((EG z).length:Int)+(z:Int):=by
     rw[BC (x:=1+((EG z).length:Int)) (by omega) (by omega),BC (by omega) (by omega)]
    show∃q,(if decide (w64 (w64 (1+((EG z).length:Int))+(z:Int))>8192)=true then _ else _)=some q∧_;rw[e4];by_cases h8:1+((EG z).length:Int)+(z:Int)>8192
    ·rw[decide_eq_true h8,if_pos rfl];exact⟨_,rfl,fun h=>by cases h⟩
    rw[decide_eq_false h8,if_neg (by decide)];have e6:cut (c::b) (w64 (1+((EG z).length:Int))) ((c::b).length:Int)=some r:=by
     have:=QM (c::EG z) r;rw[BC (x:=1+((EG z).length:Int)) (by omega) (by omega)];rw[show((c::EG z).length:Int)=1+((EG z).length:Int)from by rw[List.length_cons]; omega]at this;rw[hb2];exact this
    show∃q,Ad (cut (c::b) (w64 (1+((EG z).length:Int))) ((c::b).length:Int)) _=some q∧_;rw[e6,Ab];by_cases hzr:z≤r.length;rotate_left
    ·rw[if_pos (by rw[decide_eq_true_eq]; show(z:Int)>_; omega)];exact⟨_,rfl,fun h=>by cases h⟩
    rw[if_neg (by rw[decide_eq_true_eq]; show¬(z:Int)>_; omega)];obtain⟨k1,k2⟩:=cut_all r z hzr;show∃q,Ad (cut r 0 (z:Int)) _=some q∧_;rw[k1,Ab];show∃q,Ad (cut r (z:Int) (r.length:Int)) _=some q∧_;rw[k2,Ab];have htl:(r.take z).length=z:=by rw[List.length_take]; omega
    have hback:toB k.tag_=c:=by rw[ht]; exact toB_back c
    show∃q,(if(k.tag_ !=48)=true then _ else _)=some q∧_;by_cases h48:k.tag_=48
    ·rw[if_neg (by simp[h48])];obtain⟨t,ht1,ht2⟩:=got_loop (Ev n) D (by omega) (r.drop z) hF z (r.take z) [] C3 (by omega) (by have:=GK; omega) (by omega) (by simp only[List.length_nil]; omega);rw[ht1,Ab];rcases ht2 with q|⟨l,q1,q2,q3⟩
     ·subst q;exact⟨_,rfl,fun h=>by cases h⟩
     ·subst q1;refine⟨_,rfl,fun _=>⟨?_,?_⟩⟩
      ·show mayB (D+1) ⟨k.tag_,[],[]++l⟩=true;rw[h48];unfold mayB;simp only[Bool.and_eq_true,List.all_eq_true];exact⟨⟨rfl,rfl⟩,q2⟩
      ·show c::b=(toB k.tag_::(EG ([]++([]++l).flatMap (putB D)).length++([]++([]++l).flatMap (putB D))))++r.drop z;rw[List.nil_append,List.nil_append,q3,htl,hback,hb2,List.cons_append,List.append_assoc,List.take_append_drop]
    ·rw[if_pos (by simpa using h48),hm,Ab];cases hkb:OA (c.toNat:Int) (r.take z)with
     |false=>
      rw[if_pos (by simp)];exact⟨_,rfl,fun h=>by cases h⟩
     |true=>
      rw[if_neg (by simp),Nk (by omega),Ab];refine⟨_,rfl,fun _=>⟨?_,?_⟩⟩
      ·show mayB (D+1) ⟨k.tag_,r.take z,[]⟩=true;unfold mayB;simp only[Bool.and_eq_true,List.all_eq_true];refine⟨⟨?_,by simp⟩,fun y hy=>(by cases hy)⟩;show OA k.tag_ (r.take z)=true;rw[ht]; exact hkb
      ·show c::b=(toB k.tag_::(EG (r.take z++([]:List g_api_Item).flatMap (putB D)).length++(r.take z++([]:List g_api_Item).flatMap (putB D))))++r.drop z;rw[List.flatMap_nil,List.append_nil,htl,hback,hb2,List.cons_append,List.append_assoc,List.take_append_drop]
end Go.Proofs.YtibojdgdjhngiaaGreatDoor
end
section
namespace Go.Proofs.YtibojdgdjhngiaaGreatDoor
open Go Go.Gw Go.Ax
theorem L_few {d:Nat}{x:g_api_Item}(h:mayB (d+1) x=true)(hl:(putB (d+1) x).length≤100000):x.L.length≤100000∧∀y∈x.L,mayB d y=true∧(putB d y).length≤100000:=by
 have hp: ∀y∈x.L,1≤(putB d y).length:=fun y hy=>Tk (may_in h hy);have h1:=QE (putB d) x.L hp;have e:(putB (d+1) x).length=1+(EG (x.B++x.L.flatMap (putB d)).length).length+(x.B.length+(x.L.flatMap (putB d)).length):=by
  show(toB x.Tag::(EG (x.B++x.L.flatMap (putB d)).length++(x.B++x.L.flatMap (putB d)))).length=_;have q:(x.B++x.L.flatMap (putB d)).length=x.B.length+(x.L.flatMap (putB d)).length:=List.length_append;rw[List.length_cons,List.length_append,q];omega
 refine⟨by omega,fun y hy=>⟨may_in h hy,?_⟩⟩;have:=Ni (putB d) hy;omega
theorem few_all {x:g_api_Item}(h:mayB 8 x=true)(hl:(putB 8 x).length≤100000):x.L.length≤100000∧few3D x.L:=by
 obtain⟨a1,a2⟩:=L_few h hl;refine⟨a1,fun y hy=>(L_few (a2 y hy).1 (a2 y hy).2).1,fun y hy=> ?_⟩;obtain⟨b1,b2⟩:=L_few (a2 y hy).1 (a2 y hy).2;refine⟨fun z hz=>(L_few (b2 z hz).1 (b2 z hz).2).1,fun z hz=> ?_⟩;obtain⟨c1,c2⟩:=L_few (b2 z hz).1 (b2 z hz).2;exact fun u hu=>(L_few (c2 u hu).1 (c2 u hu).2).1
def zc:g_api_Cert:=⟨0,ByteArray.empty,ByteArray.empty,0,[],0,0,false,0,[],[],⟨0,0⟩⟩
theorem Get_any {b:List UInt8}(hb:b.length≤3000): ∃(x:g_api_Item) (n e:Int),Io b 0=some (x,n,e)∧(e=0→mayB 8 x=true∧(putB 8 x).length≤3000∧(n=(b.length:Int)→b=putB 8 x)):=by
 obtain⟨⟨x,r,e⟩,h1,h2⟩:=got_eq 8 C3 b (by decide) (by have:=GK; omega) (by omega);have h1:Lv b 8=some (x,r,e):=h1;unfold Io;have e0:(decide ((0:Int)<0)||decide ((0:Int)>(b.length:Int)))=false:=by
  have: ¬(0:Int)>(b.length:Int):=by omega
  rw[decide_eq_false this]; rfl
 have e1:cut b 0 (b.length:Int)=some b:=by
  have:=QL b [];rw[List.append_nil]at this;exact this
 rw[e0,if_neg (by decide),e1,Ab,h1,Ab];by_cases he:e=0
 ·subst he;obtain⟨g1,g2⟩:=h2 rfl;have g1:mayB 8 x=true:=g1;have g2:b=putB 8 x++r:=g2;have hl:b.length=(putB 8 x).length+r.length:=by rw[g2,List.length_append]
  rw[if_neg (by simp),B4];refine⟨x,w64 ((b.length:Int)-(r.length:Int)),0,rfl,fun _=>⟨g1,by omega,fun hn=> ?_⟩⟩;rw[BC (by omega) (by omega)]at hn;have:r=[]:=List.eq_nil_of_length_eq_zero (by omega);rw[g2,this,List.append_nil]
 ·rw[if_pos (by simpa using he)];exact⟨_,_,e,rfl,fun h=>absurd h he⟩
theorem in_any {x:g_api_Item}(hm:mayB 8 x=true)(hl:x.L.length≤100000):GC x=some (if x.Tag=48 then some ⟨x.L⟩else none):=by
 unfold GC;rw[QW hl];by_cases h:x.Tag=48
 ·rw[if_pos h,if_pos h,if_pos hm]; rfl
 ·rw[if_neg h,if_neg h]; rfl
theorem mustB (v:Bool):Bc v=some (if v=true then some ()else none):=by cases v<;>rfl
theorem okc_of {c:g_api_Cert}(h:(checkV c==0)=true):Okc c:=okc (by simpa using h)
theorem gotP {b:List UInt8}(hb:b.length≤3000): ∃c e,C5 b=some (c,e)∧(e=0→Okc c∧preBy c=b∧Km c=c)∧(e≠0→c=zc):=by
 obtain⟨x,n,e,h1,h2⟩:=Get_any hb;unfold C5 FJ DT;rw[h1,Ab];by_cases he:e=0;rotate_left
 ·rw[if_pos (by simpa using he)];exact⟨zc,e,rfl,fun h=>absurd h he,fun _=>rfl⟩
 subst he;obtain⟨g1,g2,g3⟩:=h2 rfl;obtain⟨f1,f2⟩:=few_all g1 (by omega);rw[if_neg (by simp),mustB];by_cases hn:n=(b.length:Int);rotate_left
 ·have:((x,n,(0:Int)).2.1==(b.length:Int))=false:=by rw[beq_eq_false_iff_ne]; exact hn
  rw[this];exact⟨zc,71,rfl,fun h=>by omega,fun _=>rfl⟩
 have hbx:=g3 hn;have:((x,n,(0:Int)).2.1==(b.length:Int))=true:=by rw[beq_iff_eq]; exact hn
 rw[this,if_pos rfl,Ab];show∃c e,Ad (Ad (Ad (GC x) _) _) _=some (c,e)∧_;rw[in_any g1 f1];by_cases ht:x.Tag=48;rotate_left
 ·rw[if_neg ht];exact⟨zc,71,rfl,fun h=>by omega,fun _=>rfl⟩
 rw[if_pos ht,Ab];show∃c e,Ad (Ad (Ad (Co ⟨x.L⟩) _) _) _=some (c,e)∧_;rw[preR_eq f2.1];cases hw:Zy x.L with
 |none=>exact⟨zc,71,rfl,fun h=>by omega,fun _=>rfl⟩
 |some q=>
  obtain⟨c,r⟩:=q;obtain⟨w1,w2⟩:=pre_in hw;have wp:(⟨c.Serial,c.Issuer,c.Subject,c.Key,c.Names,c.From,c.Until,c.Ca,c.Depth,c.Permit,[],c.Sig⟩:g_api_Cert)=c:=by rw[←w2]; rfl
  rw[rd_some,Ab];show∃c' e,Ad (Ad (Ad (D7 (⟨c.Serial,c.Issuer,c.Subject,c.Key,c.Names,c.From,c.Until,c.Ca,c.Depth,c.Permit,[],c.Sig⟩:g_api_Cert)) _) _) _=some (c',e)∧_;dsimp only;rw[wp,LG,Ab,mustB];cases hc:checkV c==0 with
  |false=>exact⟨zc,71,rfl,fun h=>by omega,fun _=>rfl⟩
  |true=>
   refine⟨c,0,rfl,fun _=>⟨okc_of hc,?_,w2⟩,fun h=>absurd rfl h⟩;rw[hbx,seq_in ht g1,w1];rfl
end Go.Proofs.YtibojdgdjhngiaaGreatDoor
end
section
namespace Go.Proofs.YtibojdgdjhngiaaGreatDoor
open Go Go.Gw Go.Ax
theorem srt_place (t:Int): ∀{xs:List Int},xs.Pairwise (· < ·)→∃p:Nat,p≤xs.length∧(∀(k:Nat) (x:Int),xs[k]? =some x→k<p→x<t)∧(∀(k:Nat) (x:Int),xs[k]? =some x→p≤k→t≤x)∧decide (xs[p]? =some t)=decide (t∈xs)
 | [],_=>⟨0,Nat.le_refl _,fun k x h=>by simp at h,fun k x h=>by simp at h,by simp⟩
 |y::r,h=>by
  obtain⟨h1,h2⟩:=List.pairwise_cons.1 h;by_cases hy:y<t
  ·obtain⟨p,a,b,c,d⟩:=srt_place t h2;refine⟨p+1,by simp; omega,fun k x hk hp=> ?_,fun k x hk hp=> ?_,?_⟩
   ·cases k with
    |zero=>cases hk; exact hy
    |succ k=>exact b k x hk (by omega)
   ·cases k with
    |zero=>omega
    |succ k=>exact c k x hk (by omega)
   ·rw[List.getElem?_cons_succ,d];have:t≠y:=by omega
    simp[this]
  ·refine⟨0,Nat.zero_le _,fun k x hk hp=>by omega,fun k x hk hp=> ?_,?_⟩
   ·cases k with
    |zero=>cases hk; omega
    |succ k=>
     have:=h1 x (List.mem_of_getElem? hk);omega
   ·by_cases e:t=y
    ·subst e; simp
    ·have:t∉r:=fun hm=>by have:=h1 t hm; omega
     have e':y≠t:=fun q=>e q.symm;simp[e,e',this]
theorem search_mem {l:Ak}(h:okH l.Hide (-1) (l.L.length:Int)=true)(hn:l.Hide.length≤100000)(t:Int): ∃p:Int,Bl l.Hide t=some (p,decide (t∈l.Hide)):=by
 obtain⟨p,a,b,c,d⟩:=srt_place t (okH_all h).2;exact⟨p,by rw[search_eq hn p a b c,d]⟩
theorem srt_len: ∀{xs:List Int} {a n:Int},okH xs a n=true→(xs.length:Int)≤max 0 (n-a-1)
 | [],a,n,_=>by simp; omega
 |x::r,a,n,h=>by
  obtain⟨h1,h2,h3⟩:=okH_cons.1 h;have:=srt_len h3;rw[List.length_cons];omega
theorem hide_few {l:Ak}(h:chk l=0):l.Hide.length≤256:=by
 obtain⟨h0,h1,h2,h3⟩:=IS h;have:=srt_len h2;rw[List.length_append]at h3;omega
def gpV (b:List UInt8):g_api_Cert:=((C5 b).getD (zc,0)).1
theorem gp_eq {b:List UInt8}(h:b.length≤3000): ∃e,C5 b=some (gpV b,e)∧(e=0→Okc (gpV b)∧preBy (gpV b)=b∧Km (gpV b)=gpV b)∧(e≠0→gpV b=zc):=by
 obtain⟨c,e,h1,h2,h3⟩:=gotP h;have:gpV b=c:=by unfold gpV; rw[h1]; rfl
 rw[this];exact⟨e,h1,h2,h3⟩
def Ss (v:Bool)(hide:List Int)(i:Nat)(b:List UInt8):List UInt8:=if(decide ((i:Int)∈hide)&&v)=true then 0::b else b
def crt (v:Bool)(hide:List Int):List g_api_Leaf→Nat→List g_api_Cert
 | [],_=> []
 |w::r,i=>gpV (Ss v hide i w.Body)::crt v hide r (i+1)
theorem bodyV_len {v:Bool}{hide:List Int}{i:Nat}{b:List UInt8}(h:b.length≤2048):(Ss v hide i b).length≤3000:=by
 unfold Ss; split
 ·simp; omega
 ·omega
theorem certs_step {l:Ak}{v:Bool}{a:Int}(hv:(a==1)=v)(hc:chk l=0){i:Nat}{w:g_api_Leaf}(hx:l.L[i]? =some w){out:List g_api_Cert}(ho:out.length≤1000000):
  Cu l a (i:Int) out=some (out++[gpV (Ss v l.Hide i w.Body)]):=by
 obtain⟨h0,h1,h2,h3⟩:=IS hc;have hb:w.Body.length≤2048:=UC h1 w (List.mem_append_left _ (List.mem_of_getElem? hx));obtain⟨p,hp⟩:=search_mem h2 (by have:=hide_few hc; omega) (i:Int);have hbd:(Ss v l.Hide i w.Body).length≤3000:=bodyV_len hb;obtain⟨e,he,-,-⟩:=gp_eq hbd;unfold Cu;rw[Er hx,Ab,hp,Ab];dsimp only;rw[hv];have hin:(if(decide ((i:Int)∈l.Hide)&&v)=true then Ad (A0 [[0],w.Body]) fun x8=>some x8 else some w.Body)=some (Ss v l.Hide i w.Body):=by
  unfold Ss;split
  ·rw[Mm (by simp; omega),Ab]; simp
  ·rfl
 rw[hin,Ab,he,Ab,app1 ho (by decide) (by decide),Ab]
theorem certs_it {l:Ak}{v:Bool}{a:Int}(hv:(a==1)=v)(hc:chk l=0)(hl:l.L.length≤1000): ∀(k i:Nat) (out:List g_api_Cert),i+k=l.L.length→out.length≤i→
  BE (Cu l a) k (i:Int) out=some (out++crt v l.Hide (l.L.drop i) i)
 |0,i,out,h,ho=>by
  rw[List.drop_of_length_le (by omega)];simp[BE,crt]
 |k+1,i,out,h,ho=>by
  have hi:i<l.L.length:=by omega
  have hx:l.L[i]? =some l.L[i]:=List.getElem?_eq_getElem hi;show Ad (Cu l a (i:Int) out) _=_;rw[certs_step hv hc hx (by omega),QH hx];unfold crt;have:=certs_it hv hc hl k (i+1) (out++[gpV (Ss v l.Hide i l.L[i].Body)]) (by omega) (by simp; omega);rw[List.append_assoc]at this;exact this
theorem certs_eq {l:Ak}(hl:l.L.length+l.Wait.length≤100000)(hc:chk l=0)(v:Bool):Di l (if v=true then 1 else 0)=some (crt v l.Hide l.L 0,0):=by
 obtain⟨h0,h1,h2,h3⟩:=IS hc;have h256:l.L.length≤256:=by rw[List.length_append]at h3; omega
 have hv:((if v=true then(1:Int)else 0)==1)=v:=by cases v<;>rfl
 have:=certs_it hv hc (by omega) l.L.length 0 [] (by omega) (Nat.le_refl _);rw[show((0:Nat):Int)=0 from rfl]at this;unfold Di;rw[VB hl hc v,Ab];dsimp only;rw[if_neg (by decide),this,Ab,Ab,List.drop_zero,List.nil_append]
end Go.Proofs.YtibojdgdjhngiaaGreatDoor
end
section
namespace Go.Proofs.YtibojdgdjhngiaaGreatDoor
open Go Go.Gw Go.Ax
end Go.Proofs.YtibojdgdjhngiaaGreatDoor
end
section
namespace Go.Proofs.YtibojdgdjhngiaaGreatDoor
open Go Go.Gw Go.Ax
theorem idx_at {α:Type}(a b:List α)(x:α):idx (a++x::b) (a.length:Int)=some x:=by
 unfold idx;rw[if_pos (by omega)];simp
theorem eqTexts: ∀(p q l k:List ByteArray),p.length=q.length→l.length=k.length→∃r,Ft (AI (p++l) (q++k)) l.length (p.length:Int) ()=some r∧(r= .inl ()↔l=k)∧(r= .inl ()∨r= .inr false)
 |p,q,[],[],_,_=>⟨.inl (),rfl,by simp,.inl rfl⟩
 |p,q,[],b::k,_,h=>by cases h
 |p,q,a::l,[],_,h=>by cases h
 |p,q,a::l,b::k,hp,h=>by
  obtain⟨r,h1,h2,h3⟩:=eqTexts (p++[a]) (q++[b]) l k (by simp[hp]) (by simpa using h);have e:AI (p++a::l) (q++b::k) (p.length:Int) ()=some (if eqS a b=true then .inl ()else .inr false):=by
   unfold AI;rw[idx_at,Ab,hp,idx_at,Ab];cases eqS a b<;>rfl
  show∃r,Ad (AI (p++a::l) (q++b::k) (p.length:Int) ()) _=some r∧_;rw[e];cases hc:eqS a b with
  |false=>
   refine⟨.inr false,rfl,?_,.inr rfl⟩;have:a≠b:=fun x=>by rw[IZ.2 x]at hc; cases hc
   simp[this]
  |true=>
   have hab:=IZ.1 hc;refine⟨r,?_,?_,h3⟩
   ·show Ft (AI (p++a::l) (q++b::k)) l.length ((p.length:Int)+1) ()=some r;rw[←h1];simp
   ·rw[h2,hab];simp
theorem equalT (l k:List ByteArray): ∃r,Bv l k=some r∧(r=true↔l=k):=by
 unfold Bv;by_cases h:l.length=k.length
 ·have e:((l.length:Int) !=(k.length:Int))=false:=by rw[h]; simp
  obtain⟨r,h1,h2,h3⟩:=eqTexts [] [] l k rfl h;have h1:Ft (AI l k) l.length 0 ()=some r:=h1;rw[e,if_neg (by decide),h1];rcases h3 with h3|h3
  ·subst h3; exact⟨true,rfl,by simpa using h2⟩
  ·subst h3; exact⟨false,rfl,by simpa using h2⟩
 ·have e:((l.length:Int) !=(k.length:Int))=true:=by simp; omega
  rw[e,if_pos rfl];exact⟨false,rfl,by simp only[Bool.false_eq_true,false_iff]; exact fun x=>h (by rw[x])⟩
theorem eqSig_iff {p q:g_api_Sig}:Hb p q=true↔p=q:=by
 cases p; cases q;unfold Hb;simp
theorem eqProm_iff {p q:g_api_Promise}:DL p q=true↔p=q:=by
 obtain⟨a,b,⟨c,d⟩,e⟩:=p;obtain⟨a',b',⟨c',d'⟩,e'⟩:=q;unfold DL JK;simp[eqSig_iff]
theorem eqPromsL: ∀(p q l k:List g_api_Promise),p.length=q.length→l.length=k.length→∃r,Ft (Ay (p++l) (q++k)) l.length (p.length:Int) ()=some r∧(r= .inl ()↔l=k)∧(r= .inl ()∨r= .inr false)
 |p,q,[],[],_,_=>⟨.inl (),rfl,by simp,.inl rfl⟩
 |p,q,[],b::k,_,h=>by cases h
 |p,q,a::l,[],_,h=>by cases h
 |p,q,a::l,b::k,hp,h=>by
  obtain⟨r,h1,h2,h3⟩:=eqPromsL (p++[a]) (q++[b]) l k (by simp[hp]) (by simpa using h);have e:Ay (p++a::l) (q++b::k) (p.length:Int) ()=some (if DL a b=true then .inl ()else .inr false):=by
   unfold Ay;rw[idx_at,Ab,hp,idx_at,Ab];cases DL a b<;>rfl
  show∃r,Ad (Ay (p++a::l) (q++b::k) (p.length:Int) ()) _=some r∧_;rw[e];cases hc:DL a b with
  |false=>
   refine⟨.inr false,rfl,?_,.inr rfl⟩;have:a≠b:=fun x=>by rw[eqProm_iff.2 x]at hc; cases hc
   simp[this]
  |true=>
   have hab:=eqProm_iff.1 hc;refine⟨r,?_,?_,h3⟩
   ·show Ft (Ay (p++a::l) (q++b::k)) l.length ((p.length:Int)+1) ()=some r;rw[←h1];simp
   ·rw[h2,hab];simp
theorem equalP (l k:List g_api_Promise): ∃r,A5 l k=some r∧(r=true↔l=k):=by
 unfold A5;by_cases h:l.length=k.length
 ·have e:((l.length:Int) !=(k.length:Int))=false:=by rw[h]; simp
  obtain⟨r,h1,h2,h3⟩:=eqPromsL [] [] l k rfl h;have h1:Ft (Ay l k) l.length 0 ()=some r:=h1;rw[e,if_neg (by decide),h1];rcases h3 with h3|h3
  ·subst h3; exact⟨true,rfl,by simpa using h2⟩
  ·subst h3; exact⟨false,rfl,by simpa using h2⟩
 ·have e:((l.length:Int) !=(k.length:Int))=true:=by simp; omega
  rw[e,if_pos rfl];exact⟨false,rfl,by simp only[Bool.false_eq_true,false_iff]; exact fun x=>h (by rw[x])⟩
theorem same_iff (a b:g_api_Cert): ∃r,Dm a b=some r∧(r=true↔a=b):=by
 obtain⟨r1,e1,h1⟩:=equalT a.Names b.Names;obtain⟨r2,e2,h2⟩:=equalT a.Permit b.Permit;obtain⟨r3,e3,h3⟩:=equalP a.Proms b.Proms;have hk:((a.Key.toNat:Int)==(b.Key.toNat:Int))=(a.Key==b.Key):=by
  rw[Bool.eq_iff_iff,beq_iff_eq,beq_iff_eq,←UInt64.toNat_inj];omega
 unfold Dm;rw[e1,e2,e3,hk,gu_b,Ab,gu_b,Ab,gu_b,Ab,B4];refine⟨_,rfl,?_⟩;simp only[Bool.and_eq_true,beq_iff_eq,IZ,h1,h2,h3,eqSig_iff];constructor
 ·rintro⟨⟨⟨⟨⟨⟨⟨⟨⟨⟨⟨q1,q2⟩,q3⟩,q4⟩,q5⟩,q6⟩,q7⟩,q8⟩,q9⟩,q10⟩,q11⟩,q12⟩;cases a; cases b;simp only at*;simp[q1,q2,q3,q4,q6,q7,q8,q9,q12,q5.2,q10.2,q11.2]
 ·rintro rfl;simp
end Go.Proofs.YtibojdgdjhngiaaGreatDoor
end
section
namespace Go.Proofs.YtibojdgdjhngiaaGreatDoor
open Go Go.Gw Go.Ax
theorem live30_true:IK=some true:=by kernel_rfl
end Go.Proofs.YtibojdgdjhngiaaGreatDoor
end
section
namespace Go.Proofs.YtibojdgdjhngiaaGreatDoor
open Go Go.Gw Go.Ax
theorem and64_bit (a:Int): ∃v:Bool,VR a 1=if v=true then 1 else 0:=by
 unfold VR;have h:(BitVec.ofInt 64 a&&&BitVec.ofInt 64 1).toNat≤1:=by
  rw[BitVec.toNat_and];exact Nat.le_trans Nat.and_le_right (by decide)
 generalize (BitVec.ofInt 64 a&&&BitVec.ofInt 64 1).toNat=n at*;rw[D4 (by omega) (by omega)];by_cases hn:n=0
 ·exact⟨false,by rw[hn]; rfl⟩
 ·exact⟨true,by rw[show n=1 from by omega]; rfl⟩
def mtK (c:g_api_Cert)(s:ByteArray)(b:An)(t:ByteArray):Bool:=(eqS t s&&(b.Key==c.Key))&&decide (b.At≤c.From)
theorem u64_eq (a b:UInt64):((a.toNat:Int)==(b.toNat:Int))=(a==b):=by
 have:=u64_ne a b;unfold bne at this;cases h:((a.toNat:Int)==(b.toNat:Int))<;>cases h2:(a==b)<;>rw[h,h2]at this<;>simp_all
theorem fld_or {α:Type}(p:α→Bool): ∀(l:List α) (i:Nat) (s:Bool),Y7 (fun _ s x=>s||p x) l i s=(s||l.any p)
 | [],_,s=>by simp[Y7]
 |x::r,i,s=>by unfold Y7; rw[fld_or p r]; simp[Bool.or_assoc]
theorem unb_b4 {c:g_api_Cert}{books:List An}{i k:Nat}{s:ByteArray}{b:An}(m:Bool)(hs:c.Names[i]? =some s)(hb:books[k]? =some b)(hn:b.Names.length≤1000000):
  iter (Ck c books (i:Int) (m,(k:Int))) C3 (m,0)=some (m||b.Names.any (mtK c s b)):=by
 have h:=Mf (step:=Ck c books (i:Int) (m,(k:Int))) (fun(s:Bool) (n:Int)=>(s,n)) b.Names (fun _ q t=>q||mtK c s b t) (fun _ _=>True) hn
  (fun j t q ht _=>⟨by
   have hj:=(List.getElem?_eq_some_iff.1 ht).1;unfold Ck;dsimp only;rw[Er hb,Ab,NZ hj,if_pos rfl];cases q with
   |true=>
    rw[show(!true)=false from rfl];rw[guF,Ab,guF,Ab,guF,Ab,Bool.false_and,guF,Ab,Bool.false_and,guF,Ab,YI,Bool.true_or,IE hj hn];rfl
   |false=>
    rw[show(!false)=true from rfl,guT,Ab,guT,Er ht,Ab,guT,Er hs,Ab,Bool.true_and];unfold mtK;cases he:eqS t s with
    |false=>
     rw[guF,Ab,Bool.true_and,Bool.false_and,guF,Ab,YI,IE hj hn];rfl
    |true=>
     rw[guT,Ab,Bool.true_and,Bool.true_and,u64_eq];cases hk:b.Key==c.Key with
     |false=>
      rw[guF,Ab,YI,IE hj hn];rfl
     |true=>
      rw[guT,Ab,YI,IE hj hn];rfl,trivial⟩)
  (fun q _=>by
   unfold Ck;dsimp only;rw[Er hb,Ab,KX,if_neg (by decide)]) m trivial
 rw[h,fld_or]
theorem unb_b3 {c:g_api_Cert}{books:List An}{i:Nat}{s:ByteArray}(hs:c.Names[i]? =some s)(hl:books.length≤1000000)(hn: ∀b∈books,b.Names.length≤1000000):
  iter (Cl c books (i:Int)) C3 (false,0)=some (books.any (fun b=>b.Names.any (mtK c s b))):=by
 have h:=Mf (step:=Cl c books (i:Int)) (fun(s:Bool) (n:Int)=>(s,n)) books (fun _ q b=>q||b.Names.any (mtK c s b)) (fun _ _=>True) hl
  (fun j b q hb _=>⟨by
   have hj:=(List.getElem?_eq_some_iff.1 hb).1;unfold Cl;dsimp only;rw[NZ hj,if_pos rfl,unb_b4 q hs hb (hn b (List.mem_of_getElem? hb)),Ab,Ab,IE hj hl],trivial⟩)
  (fun q _=>by
   unfold Cl;dsimp only;rw[KX,if_neg (by decide)]) false trivial
 rw[h,fld_or,Bool.false_or]
theorem mt_bkd (c:g_api_Cert)(s:ByteArray)(books:List An):books.any (fun b=>b.Names.any (mtK c s b))=bkd books s c.Key c.From:=by
 unfold bkd;congr 1;funext b;unfold mtK;cases hk:b.Key==c.Key with
 |false=>simp
 |true=>
  cases ha:decide (b.At≤c.From)with
  |false=>simp
  |true=>simp
theorem unb_eq {c:g_api_Cert}{books:List An}(hc:c.Names.length≤1000000)(hl:books.length≤1000000)(hn: ∀b∈books,b.Names.length≤1000000):EA c books=some (AbO books c):=by
 unfold EA;rw[HY c.Names (fun s=>if(!bkd books s c.Key c.From)=true then some true else none) hc (fun i s hs=>by
  have hi:=(List.getElem?_eq_some_iff.1 hs).1;unfold Dj;rw[NZ hi,if_pos rfl,unb_b3 hs hl hn,Ab,Ab,mt_bkd];cases bkd books s c.Key c.From with
  |true=>rw[if_neg (by decide),IE hi hc]; rfl
  |false=>rfl) (by unfold Dj; rw[KX,if_neg (by decide)]),Kw (fun s=> !bkd books s c.Key c.From),Ab]
 show _=some (c.Names.any (fun s=> !bkd books s c.Key c.From));cases c.Names.any (fun s=> !bkd books s c.Key c.From)<;>rfl
def PZ (a b:g_api_Cert):Bool:=(Dm a b).getD false
theorem sameB_eq (a b:g_api_Cert):Dm a b=some (PZ a b)∧(PZ a b=true↔a=b):=by
 obtain⟨r,h1,h2⟩:=same_iff a b;unfold PZ;rw[h1];exact⟨rfl,h2⟩
theorem fld_last (d:g_api_Cert): ∀(xs:List g_api_Cert) (i:Nat) (s:Int),
  (∃j,xs[j]? =some d∧Y7 (fun i (s:Int) x=>if PZ x d=true then(i:Int)else s) xs i s=((i+j:Nat):Int))∨(Y7 (fun i (s:Int) x=>if PZ x d=true then(i:Int)else s) xs i s=s∧d∉xs)
 | [],i,s=> .inr ⟨rfl,List.not_mem_nil⟩
 |x::r,i,s=>by
  unfold Y7;rcases fld_last d r (i+1) (if PZ x d=true then(i:Int)else s)with ⟨j,h1,h2⟩|⟨h1,h2⟩
  ·exact .inl ⟨j+1,h1,by rw[h2]; congr 1; omega⟩
  ·by_cases hx:PZ x d=true
   ·refine .inl ⟨0,by rw[(sameB_eq x d).2.1 hx]; rfl,?_⟩;rw[h1,if_pos hx]; rfl
   ·refine .inr ⟨by rw[h1,if_neg hx],fun hm=> ?_⟩;rcases List.mem_cons.1 hm with q|q
    ·exact hx ((sameB_eq x d).2.2 q.symm)
    ·exact h2 q
theorem bare30 (c:g_api_Cert):IL c=some (Km c):=rfl
theorem sees_b4 {a0 seen:List g_api_Cert}{e:Int}{i:Nat}{c:g_api_Cert}(hx:a0[i]? =some c)(hl:seen.length≤1000000):
  iter (BP a0 (seen,e) (i:Int)) C3 ((-1),0)=some (Y7 (fun i (s:Int) x=>if PZ x (Km c)=true then(i:Int)else s) seen 0 (-1)):=
 Mf (step:=BP a0 (seen,e) (i:Int)) (fun(s:Int) (n:Int)=>(s,n)) seen (fun i (s:Int) x=>if PZ x (Km c)=true then(i:Int)else s) (fun _ _=>True) hl
  (fun j d q hd _=>⟨by
   have hj:=(List.getElem?_eq_some_iff.1 hd).1;unfold BP;dsimp only;rw[NZ hj,if_pos rfl,Er hd,Ab,Er hx,Ab,bare30,Ab,(sameB_eq d (Km c)).1,Ab];split
   ·rw[Ab,IE hj hl]
   ·rw[Ab,IE hj hl],trivial⟩)
  (fun q _=>by
   unfold BP;dsimp only;rw[KX,if_neg (by decide)]) (-1) trivial
theorem sees_true (a0:List g_api_Cert)(a1:List An)(a2:Int):Dk a0 a1 a2=some true:=by
 unfold Dk;rw[live30_true,Ab,if_neg (by decide),few30_eq,Ab];cases hf:Ym a0
 case false=>rfl
 have hf':=hf;simp only[Ym,Bool.and_eq_true,decide_eq_true_eq]at hf';have hl:a0.length≤12:=by omega
 have hn:=(Ac2 hf'.1).2;rw[Ac5,show(!!true)=true from rfl,guT,Ab];cases hb:Yl a1
 case false=>rfl
 obtain⟨hbl,hbn⟩:=Ac4 hb;rw[if_neg (by decide)];rcases taken_two (l:=a0) 5 (by omega)with ⟨ps,x,e⟩|⟨ps,x,e,T⟩
 ·rw[e,Ab]; rfl
 rw[e,Ab];dsimp only;rw[if_neg (by decide)];have hbd:=T.bodies (by omega);have hm:=O8 T.ok;have hmL:(merged x).L=x.Wait:=by show x.L++x.Wait=_; rw[T.L]; rfl
 have hmH:(merged x).Hide=[]:=T.Hide;have hbm:(merged x).L.length+(merged x).Wait.length≤100000:=by rw[hmL]; have:=T.few; show x.Wait.length+0≤_; omega
 obtain⟨v,hv⟩:=and64_bit a2;have hcrt:crt v [] x.Wait 0=x.Wait.map (fun w=>gpV w.Body):=by
  have: ∀(l:List g_api_Leaf) (i:Nat),crt v [] l i=l.map (fun w=>gpV w.Body):=by
   intro l;induction l with
   |nil=>intro i; rfl
   |cons w r ih=>intro i; unfold crt; rw[ih]; rfl
  exact this _ _
 rw[ZK hbd T.ok,Ab];dsimp only;rw[hv,certs_eq hbm hm v,Ab,hmL,hmH,hcrt];have hwl:=T.few;have hgp: ∀(c:g_api_Cert),checkV c=0→gpV (preBy c)=Km c:=fun c hc=>by
  unfold gpV; rw[cGetPre_ok (okc hc)]; rfl
 have hall:=T.all;generalize hS:x.Wait.map (fun w=>gpV w.Body)=seen;have hsl:seen.length=x.Wait.length:=by rw[←hS,List.length_map]
 have hin: ∀(j:Nat) (c:g_api_Cert),a0[j]? =some c→Km c∈seen:=fun j c hj=>by
  obtain⟨h1,w,h2,h3⟩:=hall j c (List.getElem?_eq_some_iff.1 hj).1 hj;rw[←hS];exact List.mem_map.2 ⟨w,h2,by rw[h3,hgp c h1]⟩
 clear hall hS hcrt hgp;dsimp only;rw[show(((0:Int) !=0||(0:Int) !=0)||decide ((seen.length:Int)>(a0.length:Int)))=false by rw[decide_eq_false (by omega)]; rfl,if_neg (by decide),Vm _ (by omega),Ab];have L1:=Xj (AbO a1) seen 0;rw[Yi a0.length (by omega) (fun i hi=>by
  have hx:a0[i]? =some a0[i]:=List.getElem?_eq_getElem hi;unfold CE;rw[NZ hi,if_pos rfl,sees_b4 hx (by omega),Ab,Ab];rcases fld_last (Km a0[i]) seen 0 (-1)with ⟨j,h1,h2⟩|⟨h1,h2⟩
  ·rw[h2,Nat.zero_add];have hj:=(List.getElem?_eq_some_iff.1 h1).1;have hje:seen[j]=Km a0[i]:=by rw[List.getElem?_eq_getElem hj]at h1; exact Option.some.inj h1
   rw[show decide (((j:Nat):Int)<0)=false from decide_eq_false (by omega),show(!false)=true from rfl,guT,has_eq _ (by omega),plc_at hj,hje,Ab,guT,Er hx,Ab,guT,unb_eq (by have:=TH (hn _ (List.getElem_mem hi)); omega) (by omega) (fun b hb=>by have:=hbn b hb; omega),Ab];have:AbO a1 (Km a0[i])=AbO a1 a0[i]:=rfl;rw[this,bne_self_eq_false,if_neg (by decide),IE hi (by omega)]
  ·exact absurd (hin i _ hx) h2) (by unfold CE; rw[KX,if_neg (by decide)]),Ab]
end Go.Proofs.YtibojdgdjhngiaaGreatDoor
end
section
namespace Go.Proofs.YtibojdgdjhngiaaGreatDoor.lawMonitorSees
open Go Go.Gw Go.ChangeShapes Go.WideShapes Go.ChangeAt Go.RowKit
theorem own:ownKnob Tryz.prog.godebug=none:=by kernel_rfl
theorem tab_ir:Ir Tryz.prog 276 (.agg [.agg [.lit (.int .i64 1),.held [103,114,101,97,116,115,101,97,108,47,100,101,114,46,107,105,110,100,115,36,49]],.agg [.lit (.int .i64 2),.held [103,114,101,97,116,115,101,97,108,47,100,101,114,46,108,101,97,115,116]],.agg [.lit (.int .i64 4),.held [103,114,101,97,116,115,101,97,108,47,100,101,114,46,107,105,110,100,115,36,50]],.agg [.lit (.int .i64 12),.held [103,114,101,97,116,115,101,97,108,47,100,101,114,46,107,105,110,100,115,36,51]],.agg [.lit (.int .i64 48),.held [103,114,101,97,116,115,101,97,108,47,100,101,114,46,107,105,110,100,115,36,52]]]) [[.int .i64 1,.func (.func 305) #[] #[]],[.int .i64 2,.func (.func 149) #[] #[]],[.int .i64 4,.func (.func 306) #[] #[]],[.int .i64 12,.func (.func 307) #[] #[]],[.int .i64 48,.func (.func 310) #[] #[]]].flatten:=
 Ir.arr (n:=5) (k:=2) Tryz.underlying276 (by kernel_rfl) (by kernel_rfl) rfl rfl fun i d c h1 h2=>by
  match i,h1,h2 with
  |0,h1,h2=>cases h1; cases h2; exact Ir.pair Tryz.underlying236 rfl rfl rfl (by kernel_rfl) rfl rfl (by kernel_rfl) (by kernel_rfl) (Ir.int Tryz.underlying3) (Ir.fn Tryz.underlying115 Tryz.func305 (by kernel_rfl) (by kernel_rfl))
  |1,h1,h2=>cases h1; cases h2; exact Ir.pair Tryz.underlying236 rfl rfl rfl (by kernel_rfl) rfl rfl (by kernel_rfl) (by kernel_rfl) (Ir.int Tryz.underlying3) (Ir.fn Tryz.underlying115 Tryz.func149 (by kernel_rfl) (by kernel_rfl))
  |2,h1,h2=>cases h1; cases h2; exact Ir.pair Tryz.underlying236 rfl rfl rfl (by kernel_rfl) rfl rfl (by kernel_rfl) (by kernel_rfl) (Ir.int Tryz.underlying3) (Ir.fn Tryz.underlying115 Tryz.func306 (by kernel_rfl) (by kernel_rfl))
  |3,h1,h2=>cases h1; cases h2; exact Ir.pair Tryz.underlying236 rfl rfl rfl (by kernel_rfl) rfl rfl (by kernel_rfl) (by kernel_rfl) (Ir.int Tryz.underlying3) (Ir.fn Tryz.underlying115 Tryz.func307 (by kernel_rfl) (by kernel_rfl))
  |4,h1,h2=>cases h1; cases h2; exact Ir.pair Tryz.underlying236 rfl rfl rfl (by kernel_rfl) rfl rfl (by kernel_rfl) (by kernel_rfl) (Ir.int Tryz.underlying3) (Ir.fn Tryz.underlying115 Tryz.func310 (by kernel_rfl) (by kernel_rfl))
  |n+5,h1,h2=>cases h1
theorem gB {W:World}(h:laidMetH Tryz.prog Rows.monitorSeesRow.laid W):GB (memOf W):=fun p hp=>by
 obtain rfl:=List.mem_singleton.1 hp;exact gb_of (name:= "greatseal/der.kinds") (by kernel_rfl) (by kernel_rfl) (laidMetH.funcs h (d:= .agg [.agg [.lit (.int .i64 1),.iface "func" (.lit (.string [103,114,101,97,116,115,101,97,108,47,100,101,114,46,107,105,110,100,115,36,49]))],.agg [.lit (.int .i64 2),.iface "func" (.lit (.string [103,114,101,97,116,115,101,97,108,47,100,101,114,46,108,101,97,115,116]))],.agg [.lit (.int .i64 4),.iface "func" (.lit (.string [103,114,101,97,116,115,101,97,108,47,100,101,114,46,107,105,110,100,115,36,50]))],.agg [.lit (.int .i64 12),.iface "func" (.lit (.string [103,114,101,97,116,115,101,97,108,47,100,101,114,46,107,105,110,100,115,36,51]))],.agg [.lit (.int .i64 48),.iface "func" (.lit (.string [103,114,101,97,116,115,101,97,108,47,100,101,114,46,107,105,110,100,115,36,52]))]]) (List.Mem.tail _ (List.Mem.head _))) tab_ir
theorem rd3:Rd Tryz.prog 3 (Int):=Rd.int Tryz.underlying3
theorem rd9:Rd Tryz.prog 9 (ByteArray):=Rd.str Tryz.underlying9
theorem rd22:Rd Tryz.prog 22 (UInt64):=Rd.u64 Tryz.underlying22
theorem rd57:Rd Tryz.prog 57 (List ByteArray):=Rd.slice Tryz.underlying57 rd9 (by kernel_rfl) (by decide)
theorem rd4:Rd Tryz.prog 4 (Bool):=Rd.bool Tryz.underlying4
theorem rd38:Rd Tryz.prog 38 (UInt64×UInt64):=Rd.arr2 Tryz.underlying38 rd22 (by kernel_rfl) (by kernel_rfl)
theorem rd40:Rd Tryz.prog 40 (g_api_Sig):=Rd.struct Tryz.underlying40 (LN.more rfl rd22 (by kernel_rfl) (LN.last rfl rd22 (by kernel_rfl))) (by kernel_rfl) (fun b=>⟨b.1,b.2⟩) (fun h=>h)
theorem rd82:Rd Tryz.prog 82 (g_api_Promise):=Rd.struct Tryz.underlying82 (LN.more rfl rd3 (by kernel_rfl) (LN.more rfl rd3 (by kernel_rfl) (LN.more rfl rd38 (by kernel_rfl) (LN.last rfl rd40 (by kernel_rfl))))) (by kernel_rfl) (fun b=>⟨b.1,b.2.1,b.2.2.1,b.2.2.2⟩) (fun h=>h)
theorem rd36:Rd Tryz.prog 36 (List g_api_Promise):=Rd.slice Tryz.underlying36 rd82 (by kernel_rfl) (by decide)
theorem rd59:Rd Tryz.prog 59 (g_api_Cert):=Rd.struct Tryz.underlying59 (LN.more rfl rd3 (by kernel_rfl) (LN.more rfl rd9 (by kernel_rfl) (LN.more rfl rd9 (by kernel_rfl) (LN.more rfl rd22 (by kernel_rfl) (LN.more rfl rd57 (by kernel_rfl) (LN.more rfl rd3 (by kernel_rfl) (LN.more rfl rd3 (by kernel_rfl) (LN.more rfl rd4 (by kernel_rfl) (LN.more rfl rd3 (by kernel_rfl) (LN.more rfl rd57 (by kernel_rfl) (LN.more rfl rd36 (by kernel_rfl) (LN.last rfl rd40 (by kernel_rfl))))))))))))) (by kernel_rfl) (fun b=>⟨b.1,b.2.1,b.2.2.1,b.2.2.2.1,b.2.2.2.2.1,b.2.2.2.2.2.1,b.2.2.2.2.2.2.1,b.2.2.2.2.2.2.2.1,b.2.2.2.2.2.2.2.2.1,b.2.2.2.2.2.2.2.2.2.1,b.2.2.2.2.2.2.2.2.2.2.1,b.2.2.2.2.2.2.2.2.2.2.2⟩) (fun h=>h)
theorem rd29:Rd Tryz.prog 29 (List g_api_Cert):=Rd.slice Tryz.underlying29 rd59 (by kernel_rfl) (by decide)
theorem rd65:Rd Tryz.prog 65 (An):=Rd.struct Tryz.underlying65 (LN.more rfl rd9 (by kernel_rfl) (LN.more rfl rd57 (by kernel_rfl) (LN.more rfl rd22 (by kernel_rfl) (LN.last rfl rd3 (by kernel_rfl))))) (by kernel_rfl) (fun b=>⟨b.1,b.2.1,b.2.2.1,b.2.2.2⟩) (fun h=>h)
theorem rd35:Rd Tryz.prog 35 (List An):=Rd.slice Tryz.underlying35 rd65 (by kernel_rfl) (by decide)
theorem contract (H:Type)(enc:TypeId×Value→H)(W:World)(base:Nat)(args:Array Value)(ds gs:List (DataW H))(before:List MemPlace)
  (hval: ∀(j:Nat) t v,Tryz.f5.params[j]? =some t→args[j]? =some v→Value.okWide Tryz.prog W .any base t v)
  (hW:DataW.Whole enc Tryz.prog Tryz.f5.params.toList Rows.monitorSeesSpec.vars false W args.toList ds gs before) (hL:laidMetH Tryz.prog Rows.monitorSeesRow.laid W):
  Calls Tryz.prog 5 args W fun e W'=> ∃v,e= .returned v∧Rows.monitorSeesSpec.post enc Tryz.prog Tryz.f5 false true false false W args v W':=by
 have hW':=hW;obtain⟨p,q,hA0,hV,rfl,hfz,hnd⟩:=hW;obtain⟨rfl,rfl⟩:=trodVars_none hV;rw[List.append_nil]at hW';have hA:DataW.TrodAll enc Tryz.prog W 0 (fun _=>true) true Tryz.f5.params.toList args.toList ds p:=hA0;have hA1:=hA;have hpl:Tryz.f5.params.toList=[29,35,3]:=by rw[Tryz.params5]
 rw[hpl]at hA1;obtain⟨v0,w0,d0,e0,p0,q0,ha0,he0,hp0,h0,r0⟩:=trodAll_cons hA1;obtain⟨v1,w1,d1,e1,p1,q1,ha1,he1,hp1,h1,r1⟩:=trodAll_cons r0;obtain⟨v2,w2,d2,e2,p2,q2,ha2,he2,hp2,h2,r2⟩:=trodAll_cons r1;obtain⟨z1,z2,z3⟩:=trodAll_nil r2;obtain rfl:args= #[v0,v1,v2]:=by
  apply Array.ext'; rw[ha0,ha1,ha2,z1]
 obtain rfl:ds=[d0,d1,d2]:=by rw[he0,he1,he2,z2]
 rw[Tryz.params5]at hval;obtain⟨x0,l0,c0,rfl⟩:=okWide_slice Tryz.underlying29 (hval 0 29 v0 rfl rfl);obtain⟨a0,s0⟩:=rd29.openS h0;obtain⟨x1,l1,c1,rfl⟩:=okWide_slice Tryz.underlying35 (hval 1 35 v1 rfl rfl);obtain⟨a1,s1⟩:=rd35.openS h1;obtain⟨a2,rfl,_,_,_⟩:=open_int Tryz.underlying3 (hval 2 3 v2 rfl rfl) h2;have hc:=KP (St.of W (gB hL)) s0 s1 (sees_true a0 a1 a2);refine Calls.mono hc ?_;rintro e W' ⟨v,rfl,hk,M,hle,S,rfl⟩;refine⟨.bool true,rfl,Xh (tb:=4) (by kernel_rfl) (by kernel_rfl) rfl (by kernel_rfl) Tryz.underlying4 hW' hA rfl rfl rfl hle S hk⟩
noncomputable def N3 (os:Os):World:=
 {World.holding Tryz.prog os ⟨#[], #[],[]⟩with heap:=((((World.holding Tryz.prog os ⟨#[], #[],[]⟩).heap.modify 5 fun| .cells _ t fr=> .cells #[.int .u8 128,.int .u8 191,.int .u8 160,.int .u8 191,.int .u8 128,.int .u8 159,.int .u8 144,.int .u8 191,.int .u8 128,.int .u8 143,.int .u8 0,.int .u8 0,.int .u8 0,.int .u8 0,.int .u8 0,.int .u8 0,.int .u8 0,.int .u8 0,.int .u8 0,.int .u8 0,.int .u8 0,.int .u8 0,.int .u8 0,.int .u8 0,.int .u8 0,.int .u8 0,.int .u8 0,.int .u8 0,.int .u8 0,.int .u8 0,.int .u8 0,.int .u8 0] t fr|o=>o).modify 2 fun| .cells _ t fr=> .cells [[.int .i64 1,.func (.func 305) #[] #[]],[.int .i64 2,.func (.func 149) #[] #[]],[.int .i64 4,.func (.func 306) #[] #[]],[.int .i64 12,.func (.func 307) #[] #[]],[.int .i64 48,.func (.func 310) #[] #[]]].flatten.toArray t fr|o=>o).modify 4 fun| .cells _ t fr=> .cells ((List.replicate 128 240++List.replicate 66 241++List.replicate 30 2++[19]++List.replicate 12 3++[35,3,3,52,4,4,4,68]++List.replicate 11 241:List Int).map fun n=>Value.int .u8 n).toArray t fr|o=>o)}
theorem laid_met (os:Os):laidMetH Tryz.prog Rows.monitorSeesRow.laid ((N3 os).forCall (fun _ _=>0) ⟨#[], #[(.slice none 0 0:Value),(.slice none 0 0:Value),(.int .i64 0:Value)],[]⟩).memory:=
 laidMetH_of_parts3 (fuel:=8) (laidMet_of_run' 8 (by kernel_rfl) (by kernel_rfl)) (by kernel_rfl) (by kernel_rfl)
theorem reads (os:Os){H:Type}(enc:TypeId×Value→H): ∃places,DataW.whole enc Tryz.prog ((N3 os).forCall (fun _ _=>0) ⟨#[], #[(.slice none 0 0:Value),(.slice none 0 0:Value),(.int .i64 0:Value)],[]⟩).memory Tryz.f5.params.toList Rows.monitorSeesSpec.vars false #[(.slice none 0 0:Value),(.slice none 0 0:Value),(.int .i64 0:Value)].toList 8=some ([.nil,.nil,.lit (.int .i64 0)],[],places):=
 ⟨[],by kernel_rfl⟩
theorem lifted (os:Os)(started:os.Started)(H:Type)(enc:TypeId×Value→H)(F:Stop.Interp):
  ReturnsInHanded {} Tryz.checked os 5 .any ((OpenSpec.ofChange Rows.monitorSeesSpec).preRow enc Tryz.prog Tryz.f5 Rows.monitorSeesRow.domain false Rows.monitorSeesRow.laid) (((OpenSpec.ofChange Rows.monitorSeesSpec).at F).post enc Tryz.prog Tryz.f5 false true false false):=by
 obtain⟨places,hx⟩:=reads os enc;refine returnsInHanded_of_row (C:=Tryz.checked) (s:=OpenSpec.ofChange Rows.monitorSeesSpec) own started (by kernel_rfl) Tryz.func5
  (witness_row_at (enc:=enc) (C:=Tryz.checked) false (N3 os) #[(.slice none 0 0:Value),(.slice none 0 0:Value),(.int .i64 0:Value)] rfl (by kernel_rfl) (by kernel_rfl) (by kernel_rfl)
   (OpenSpec.preRow_of_cond 8 hx (by kernel_rfl) (fun k hk=>by cases hk) (by kernel_rfl) (laid_met os))) ?_
 intro W base args ds gs before hval hW _ _ _ hL _ _;exact contract H enc W base args ds gs before hval hW hL
theorem j0:laidOutB Tryz.prog=true:=by kernel_rfl
theorem j1:mapsRowed Tryz.prog=true:=by kernel_rfl
theorem j2:(Rows.monitorSeesRow.inPlace==Tryz.prog.inPlace 5)=true:=by kernel_rfl
theorem j3:(Rows.monitorSeesRow.unfollowed==Tryz.prog.unfollowed 5)=true:=by kernel_rfl
theorem j4:(Rows.monitorSeesRow.recurses==Tryz.prog.recurses 5)=true:=by kernel_rfl
theorem j5:(Rows.monitorSeesRow.named==Tryz.prog.varsNamed 5)=true:=by kernel_rfl
theorem joined:joinedFacts Tryz.prog 5 Tryz.f5 (OpenSpec.ofChange Rows.monitorSeesSpec).bare Rows.monitorSeesRow=true:=by
 unfold joinedFacts;rw[j0,j1,j2,j3,j4,j5];kernel_rfl
theorem s1:Tryz.pinned.checked.prog.funcNamed Rows.monitorSeesRow.func=some 5:=by kernel_rfl
theorem s2:Tryz.f5.isInstance Tryz.pinned.checked.prog Rows.monitorSeesRow.origin Rows.monitorSeesRow.targs:=of_decide_eq_true (by kernel_rfl)
theorem s3:Tryz.f5.isWrapper Tryz.pinned.checked.prog Rows.monitorSeesRow.wrapper Rows.monitorSeesRow.mainSum:=by unfold Func.isWrapper; first|(rw[if_pos (by decide+kernel)]; kernel_rfl)|(rw[if_neg (by decide+kernel)]; exact⟨rfl,rfl⟩)
theorem s4:joinedFacts Tryz.pinned.checked.prog 5 Tryz.f5 (OpenSpec.ofChange Rows.monitorSeesSpec).bare Rows.monitorSeesRow=true:=joined
theorem s5 (os:Os)(started:os.Started)(H:Type)(enc:TypeId×Value→H)(F:Stop.Interp):ReturnsInHanded Rows.monitorSeesRow.assume Tryz.pinned.checked os 5 .any (Rows.monitorSeesRow.pre enc Tryz.pinned.checked.prog Tryz.f5 (OpenSpec.ofChange Rows.monitorSeesSpec)) (((OpenSpec.ofChange Rows.monitorSeesSpec).at F).post enc Tryz.pinned.checked.prog Tryz.f5 Rows.monitorSeesRow.apart Rows.monitorSeesRow.fresh Rows.monitorSeesRow.handsOn Rows.monitorSeesRow.again):=by rw[OpenClaim.pre_eq_preRow]; exact lifted os started H enc F
theorem said:Rows.MonitorSeesSaid:=
 OpenClaim.holds_of_cond 5 Tryz.f5 rfl rfl rfl rfl rfl rfl rfl ⟨rfl,rfl,rfl,rfl,rfl⟩ rfl rfl rfl rfl rfl s1 Tryz.func5 s4 s2 s3 (fun os started H enc _ F=>s5 os started H enc F)
theorem plain (f:FuncId)(fn:Func)(hf:Tryz.pinned.checked.prog.funcNamed "greatseal/greatseallaw30.MonitorSees" =some f)(hfn:Tryz.pinned.checked.prog.funcs[f]? =some fn):
  true=Tryz.pinned.checked.prog.looks []∧∀(j:Nat) t,fn.params[j]? =some t→Tryz.pinned.checked.prog.wantsStandIn t=false:=by
 obtain rfl:f=5:=Option.some.inj ((show Tryz.prog.funcNamed "greatseal/greatseallaw30.MonitorSees" =some 5 by kernel_rfl).symm.trans hf)|>.symm;obtain rfl:fn=Tryz.f5:=(Option.some.inj (Tryz.func5.symm.trans hfn)).symm;refine⟨by kernel_rfl,fun j t ht=> ?_⟩;rw[Tryz.params5]at ht;have hm:t∈[29,35,3]:=by simpa using Array.mem_of_getElem? ht
 have hall:([29,35,3].all fun u=> !Tryz.prog.wantsStandIn u)=true:=by kernel_rfl
 exact(show Tryz.prog.wantsStandIn t=false by simpa using List.all_eq_true.1 hall t hm)
theorem card:Rows.MonitorSeesCardSaid:=
 Claim7.holds_tied_plain_at .later [] _ _ _ _ said (fun _ h=>by cases h) (by kernel_rfl) (fun _ h=>by cases h) monitorSees_row_tie rfl ⟨rfl,rfl⟩ (by kernel_rfl) rfl plain (by kernel_rfl)
end Go.Proofs.YtibojdgdjhngiaaGreatDoor.lawMonitorSees
end
