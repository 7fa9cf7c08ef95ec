/- A part of the proof of AuditBatch. -/
import Derived.Test.YtdfpoofbgjilgaaGreatUav
set_option linter.unusedVariables false
set_option linter.unusedSimpArgs false
set_option maxRecDepth 100000
set_option maxHeartbeats 40000000
namespace Go.Proofs.YtdfpoofbgjilgaaGreat
open Go Go.RowKit Sh
def Lz (n:Nat):List UInt8:=(List.range 32).map fun i=>UInt8.ofNat (n >>> (8*i) % 256)
theorem Sf (n:Nat):(Lz n).length=32:=by simp[Lz]
def w4 (n:Nat):List UInt64:=(List.range 4).map fun i=>UInt64.ofNat (n >>> (64*i) % 18446744073709551616)
structure Owr where
 A:List UInt8
 S:List UInt8
 B:List UInt8
 Y:N5
 X:N5
 P:PN
 Q:PN
noncomputable def Owr.ok1 (o:Owr) (sd:List UInt8):Bool:=Ig sd==o.A&&B2w sd==o.S
noncomputable def Owr.ok2 (o:Owr):Bool:=Xk (Pu A0t C5h o.A 8)==o.B
noncomputable def Owr.ok3 (o:Owr):Bool:=Ts o.B==u5 o.Y&&(eq5 (C7m D8i o.Y) o.X&&(Ls (Tf o.B)&&(C0k D8i o.Y&&(!(Jb o.B&&N8 (u5 o.X)==z8 32)&&(eqP (Yy (if Jb o.B then Ud Ct o.X else o.X) o.Y) o.P&&(!B5y A0t o.P&&eqP (D6w o.P) o.Q))))))
noncomputable def Owr.up1 (o:Owr) (v:Int) (ky:List UInt8) (r f k s:Nat):Bool:=A6y [o.S,Hf 1 (Dw v ky)]==w4 r&&(Cp (w4 r)==Lz r&&(A6y [Lz f,o.B,Hf 1 (Dw v ky)]==w4 k&&(Cp (B6t (w4 r) (B4u (w4 k) (Lm o.A)))==Lz s&&(Lr (Lz s)&&(Cp (Ik (Lz s))==Lz s&&Cp (w4 k)==Lz k)))))
noncomputable def Owr.up2 (r f:Nat):Bool:=Xk (Pu A0t C5h (Lz r) 8)==Lz f
noncomputable def Owr.up3 (o:Owr) (f k s:Nat):Bool:=Xk (B5k A0t A1w (Lz s) o.Q (Lz k) 64)==Lz f
noncomputable def Owr.up (o:Owr) (v:Int) (ky:List UInt8) (r f k s:Nat):Bool:=o.up1 v ky r f k s&&(Owr.up2 r f&&o.up3 f k s)
theorem B0m (a b:Nat):E1 (Lz a++Lz b) 0=Lz a:=by
 unfold E1;rw[List.drop_zero,List.take_left' (Sf a)]
theorem B1b (a b:Nat):E1 (Lz a++Lz b) 32=Lz b:=by
 unfold E1;rw[List.drop_left' (Sf a),List.take_of_length_le (by rw[Sf];decide)]
theorem Owr.pub {o:Owr} {sd:List UInt8} (h1:o.ok1 sd=true) (h2:o.ok2=true):Ac sd=o.B:=by
 simp only[Owr.ok1,Owr.ok2,Bool.and_eq_true,beq_iff_eq]at h1 h2;unfold Ac;rw[h1.1];exact Zg rfl (by rw[h2];exact beq_self_eq_true _)
theorem Owr.upd {o:Owr} {sd ky:List UInt8} {v:Int} {r f k s:Nat} (h1:o.ok1 sd=true) (h2:o.ok2=true) (h3:o.ok3=true) (hu:o.up v ky r f k s=true) (hv:decide (1≤v)=true) (hv2:decide (v≤64)=true) :
 mkU sd v ky=⟨o.B,v,ky,Lz f++Lz s⟩∧signedB (mkU sd v ky)=true:=by
 have pub:=Owr.pub h1 h2;simp only[Owr.ok1,Owr.ok2,Owr.ok3,Owr.up,Owr.up1,Owr.up2,Owr.up3,Bool.and_eq_true,beq_iff_eq,Bool.not_eq_true']at h1 h2 h3 hu;obtain⟨a1,a2⟩:=h1;obtain⟨b3,b4,b5,b6,b7,b8,b9,d1⟩:=h3;obtain⟨⟨a4,a5,a6,b1,d3,d4,d5⟩,u2,u3⟩:=hu;obtain⟨M,hM⟩:∃M,M=Hf 1 (Dw v ky):=⟨_,rfl⟩;rw[←hM]at a4 a6;have er:sgR sd [M]=w4 r:=by unfold sgR;rw[a2,a4]
 have ef:sgF sd [M]=Lz f:=by unfold sgF;rw[er,a5];exact Zg rfl (by rw[u2];exact beq_self_eq_true _)
 have ek:sgK sd [M]=w4 k:=by unfold sgK;rw[ef,pub,a6]
 have es:sgS sd [M]=Lz s:=by unfold sgS;rw[er,ek,a1,b1]
 have sg:Wq sd [M]=Lz f++Lz s:=by unfold Wq;rw[ef,es]
 have Fy:mkU sd v ky=⟨o.B,v,ky,Lz f++Lz s⟩:=by unfold mkU Uh;rw[pub,←hM,sg]
 have x:Vm o.B=u5 o.X:=by rw[D8n D5m b3,Vo b4]
 have ok:Dn o.B=true:=D4b D5m b3 x b5 b6 b7;have p:De o.B=uP o.P:=by rw[D7e ok b3 x,B5c b8]
 have aA:Kt (De o.B)=false:=by rw[p,C4s B7l];exact b9
 have vf:vfH o.B (Lz f++Lz s) [M]=Lz f:=by unfold vfH vfK;rw[B0m,B1b,a6,d4,d5,p,D6u,B5c d1];show Fv (Qp (Lz s) (uP o.Q) (Lz k) 64)=Lz f;rw[B8v B7l D7d,A8x];exact u3
 refine ⟨Fy,?_⟩;rw[Fy,A2b hv hv2];show Jc o.B 1 (Dw v ky) (Lz f++Lz s)=true;unfold Jc;rw[←hM];unfold Eh;rw[ok,aA,B1b,d3,vf,B0m];simp
noncomputable def Owr.at (o:Owr) (v i r f k s:Nat):Bool:=o.up (v:Int) (h1 (UInt8.ofNat i)) r f k s
theorem Owr.sgn {o:Owr} {sd:List UInt8} {v i r f k s:Nat} (e1:o.ok1 sd=true) (e2:o.ok2=true) (e3:o.ok3=true) (hu:o.at v i r f k s=true) (hv:1≤v) (hv2:v≤64):signedB (mkU sd (v:Int) (h1 (UInt8.ofNat i)))=true:=
 (Owr.upd e1 e2 e3 hu (decide_eq_true (by omega)) (decide_eq_true (by omega))).2
section
set_option maxRecDepth 100000
set_option maxHeartbeats 0
def Kd:Owr:=⟨[24,43,127,223,207,139,160,190,19,155,73,14,174,106,129,101,201,22,73,246,134,109,155,112,236,0,77,176,100,45,100,67],[39,36,193,186,75,8,174,93,83,86,77,234,91,194,42,103,190,220,91,43,202,152,235,32,245,136,194,234,95,90,67,100],[201,64,120,192,155,121,202,7,6,39,165,183,86,214,224,166,22,148,214,73,28,219,118,40,169,208,102,209,198,143,108,74],⟨696659809419465,799296179978489,2069626000999257,92995628928548,1309282065520237⟩,⟨681335015776448,650694502024415,824780953014266,769702744233463,1000118040329457⟩,⟨⟨681335015776448,650694502024415,824780953014266,769702744233463,1000118040329457⟩,⟨696659809419465,799296179978489,2069626000999257,92995628928548,1309282065520237⟩,⟨1,0,0,0,0⟩,⟨1347231556664025,1947460111165924,427128881725482,1372249078021533,1098623169189759⟩⟩,⟨⟨1570464797908781,1601105311660832,1427018860670981,1482097069451784,1251681773355790⟩,⟨696659809419465,799296179978489,2069626000999257,92995628928548,1309282065520237⟩,⟨1,0,0,0,0⟩,⟨904568257021204,304339702519323,1824670931959765,879550735663714,1153176644495488⟩⟩⟩
theorem E7c:Kd.ok1 (Gb (UInt8.ofNat 0) 98)=true:=by kernel_rfl
theorem E2j:Kd.ok2=true:=by kernel_rfl
theorem F2q:Kd.ok3=true:=by kernel_rfl
end
section
set_option maxRecDepth 100000
set_option maxHeartbeats 0
def Jr:Owr:=⟨[136,146,119,16,114,61,110,76,82,24,78,36,217,28,63,141,68,59,188,88,99,80,239,87,239,56,42,220,178,51,127,90],[11,246,167,102,118,206,106,110,124,61,183,208,237,143,99,210,95,206,20,152,201,7,231,39,160,16,213,11,120,104,208,104],[135,180,49,195,240,112,160,194,26,185,84,113,55,201,246,112,12,226,13,114,134,61,239,44,3,191,109,131,215,105,15,186],⟨124179369276551,1950716551977044,61058089999140,2112808088945465,1021405994432219⟩,⟨1688903997589252,1036518709366918,2079335338520889,166585250127596,247953737909442⟩,⟨⟨562895816095977,1215281104318329,172464475164358,2085214563557651,2003846075775805⟩,⟨124179369276551,1950716551977044,61058089999140,2112808088945465,1021405994432219⟩,⟨1,0,0,0,0⟩,⟨1669417467519873,1568083155703797,96892057054307,1995336770287905,755700735369330⟩⟩,⟨⟨1688903997589252,1036518709366918,2079335338520889,166585250127596,247953737909442⟩,⟨124179369276551,1950716551977044,61058089999140,2112808088945465,1021405994432219⟩,⟨1,0,0,0,0⟩,⟨582382346165356,683716657981450,2154907756630940,256463043397342,1496099078315917⟩⟩⟩
theorem E6y:Jr.ok1 (Gb (UInt8.ofNat 1) 98)=true:=by kernel_rfl
theorem E5p:Jr.ok2=true:=by kernel_rfl
theorem F4g:Jr.ok3=true:=by kernel_rfl
end
section
set_option maxRecDepth 100000
set_option maxHeartbeats 0
def Jk:Owr:=⟨[40,225,206,127,81,67,186,213,151,220,213,201,5,240,65,124,74,40,140,50,165,86,15,22,5,20,237,170,38,140,74,69],[156,213,11,229,246,143,102,224,180,239,96,87,44,61,168,23,189,133,114,155,126,57,30,249,87,65,8,71,128,54,127,183],[56,207,113,223,74,45,84,171,231,204,240,0,246,6,211,238,76,137,110,136,27,59,122,107,160,152,226,145,174,227,35,215],⟨1175699506450232,1900085371532650,486143921179675,1214091643162052,1532986485448233⟩,⟨918488589618396,1954781381702184,2239131389591607,168891626774606,591253399841882⟩,⟨⟨1333311224066833,297018431983063,12668424093640,2082908186910641,1660546413843365⟩,⟨1175699506450232,1900085371532650,486143921179675,1214091643162052,1532986485448233⟩,⟨1,0,0,0,0⟩,⟨1495820893027029,1891558352986219,1954814737947772,501343685171493,846955839572137⟩⟩,⟨⟨918488589618396,1954781381702184,2239131389591607,168891626774606,591253399841882⟩,⟨1175699506450232,1900085371532650,486143921179675,1214091643162052,1532986485448233⟩,⟨1,0,0,0,0⟩,⟨755978920658200,360241460699028,296985075737475,1750456128513754,1404843974113110⟩⟩⟩
theorem E8t:Jk.ok1 (Gb (UInt8.ofNat 2) 98)=true:=by kernel_rfl
theorem E1h:Jk.ok2=true:=by kernel_rfl
theorem F2r:Jk.ok3=true:=by kernel_rfl
end
section
set_option maxRecDepth 100000
set_option maxHeartbeats 0
def Jv:Owr:=⟨[112,21,3,133,253,12,108,51,142,28,29,174,80,141,130,46,46,115,60,99,55,191,255,76,56,51,46,116,169,77,65,78],[137,142,40,131,137,169,12,106,78,1,157,199,106,204,233,2,203,113,158,223,97,139,190,148,223,147,4,66,48,186,167,139],[54,232,171,146,59,178,208,203,155,229,63,92,243,109,15,41,91,45,15,65,154,8,76,21,255,192,89,180,181,130,131,12],⟨195968933554230,1807081664641402,1192649816292791,140233467514144,220143571125660⟩,⟨2049764233338130,1459347989684436,27234235310287,648899352058067,1410542946423122⟩,⟨⟨2049764233338130,1459347989684436,27234235310287,648899352058067,1410542946423122⟩,⟨195968933554230,1807081664641402,1192649816292791,140233467514144,220143571125660⟩,⟨1,0,0,0,0⟩,⟨658271680346125,1624033565523328,2122494103943909,135133829665712,1296797930493915⟩⟩,⟨⟨202035580347099,792451824000811,2224565578374960,1602900461627180,841256867262125⟩,⟨195968933554230,1807081664641402,1192649816292791,140233467514144,220143571125660⟩,⟨1,0,0,0,0⟩,⟨1593528133339104,627766248161919,129305709741338,2116665984019535,955001883191332⟩⟩⟩
theorem E9s:Jv.ok1 (Gb (UInt8.ofNat 3) 98)=true:=by kernel_rfl
theorem E3d:Jv.ok2=true:=by kernel_rfl
theorem F3a:Jv.ok3=true:=by kernel_rfl
end
end Go.Proofs.YtdfpoofbgjilgaaGreat
